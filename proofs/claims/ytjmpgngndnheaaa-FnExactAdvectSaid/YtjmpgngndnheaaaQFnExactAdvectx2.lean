-- Written by a program of this session out of the printer's texts and contracts of its own.
import Derived.Test.YtjmpgngndnheaaaSq
import Derived.Test.YtjmpgngndnheaaaQFnExactAdvectx0
import Derived.Test.YtjmpgngndnheaaaQFnExactAdvectx1
namespace Go.Proofs.Ytjmpgngndnheaaa.QFnExactAdvect
open Go.RowKit Go.Proofs.YtjmpgngndnheaaaW.PrintWords Go.Proofs.YtjmpgngndnheaaaW.PrintLast Go.Proofs.YtjmpgngndnheaaaW.PrintMore Go.Proofs.Ytjmpgngndnheaaa.Sq
attribute [local go_sem] max2_int min2_int max_two min_two max_three min_three max_four min_four   -- for this text's walks alone
set_option linter.unusedVariables false
set_option linter.unusedSimpArgs false

/-! ### spec_l17Step: function 27 -/
def spec_l17Step.l0 : Nat → List Int → Int → Int → List Int → List Int → List Int → List Int → Option (List Int × List Int)
 | 0, _, _, _, _, _, _, _ => none
 | k + 1, x1, x5, x7, x117000, x117001, x131000, x131001 => if x7 < x5 then (if 0 ≤ x7 then (if x7 < (x117000.length : Int) then (if x7 < (x117001.length : Int) then (if x5 = 0 then (none) else (if x7 < (x1.length : Int) then (if (rd x1 x7) < 0 then ((spec_l17Part.f (rd x117001 x7) (wrap64 (Int.tdiv (wrap64 ((rd x117000 x7) * (wrap64 (-(rd x1 x7))))) 256)) (rd x117000 x7)).bind fun t136 => (if x7 < (x131000.length : Int) then ((some (x131000.set (x7 : Int).toNat (wrap64 ((rd x131000 x7) - (wrap64 (Int.tdiv (wrap64 ((rd x117000 x7) * (wrap64 (-(rd x1 x7))))) 256)))) : List Int)).bind fun y138 => (if 0 ≤ (Int.tmod (wrap64 ((wrap64 (x7 + x5)) - 1)) x5) then (if (Int.tmod (wrap64 ((wrap64 (x7 + x5)) - 1)) x5) < (x131000.length : Int) then ((some (y138.set ((Int.tmod (wrap64 ((wrap64 (x7 + x5)) - 1)) x5) : Int).toNat (wrap64 ((rd y138 (Int.tmod (wrap64 ((wrap64 (x7 + x5)) - 1)) x5)) + (wrap64 (Int.tdiv (wrap64 ((rd x117000 x7) * (wrap64 (-(rd x1 x7))))) 256)))) : List Int)).bind fun y140 => (if x7 < (x131001.length : Int) then ((some (x131001.set (x7 : Int).toNat (wrap64 ((rd x131001 x7) - t136)) : List Int)).bind fun y142 => (if (Int.tmod (wrap64 ((wrap64 (x7 + x5)) - 1)) x5) < (x131001.length : Int) then ((some (y142.set ((Int.tmod (wrap64 ((wrap64 (x7 + x5)) - 1)) x5) : Int).toNat (wrap64 ((rd y142 (Int.tmod (wrap64 ((wrap64 (x7 + x5)) - 1)) x5)) + t136)) : List Int)).bind fun y144 => (if 0 ≤ (Int.tmod (wrap64 (x7 + 1)) x5) then (if (Int.tmod (wrap64 (x7 + 1)) x5) < (x1.length : Int) then (if (rd x1 (Int.tmod (wrap64 (x7 + 1)) x5)) > 0 then ((spec_l17Part.f (wrap64 ((rd x117001 x7) - t136)) (wrap64 (Int.tdiv (wrap64 ((rd x117000 x7) * (rd x1 (Int.tmod (wrap64 (x7 + 1)) x5)))) 256)) (wrap64 ((rd x117000 x7) - (wrap64 (Int.tdiv (wrap64 ((rd x117000 x7) * (wrap64 (-(rd x1 x7))))) 256))))).bind fun t148 => ((some (y140.set (x7 : Int).toNat (wrap64 ((rd y140 x7) - (wrap64 (Int.tdiv (wrap64 ((rd x117000 x7) * (rd x1 (Int.tmod (wrap64 (x7 + 1)) x5)))) 256)))) : List Int)).bind fun y150 => (if (Int.tmod (wrap64 (x7 + 1)) x5) < (x131000.length : Int) then ((some (y144.set (x7 : Int).toNat (wrap64 ((rd y144 x7) - t148)) : List Int)).bind fun y154 => (if (Int.tmod (wrap64 (x7 + 1)) x5) < (x131001.length : Int) then (spec_l17Step.l0 k x1 x5 (wrap64 (x7 + 1)) x117000 x117001 (y150.set ((Int.tmod (wrap64 (x7 + 1)) x5) : Int).toNat (wrap64 ((rd y150 (Int.tmod (wrap64 (x7 + 1)) x5)) + (wrap64 (Int.tdiv (wrap64 ((rd x117000 x7) * (rd x1 (Int.tmod (wrap64 (x7 + 1)) x5)))) 256))))) (y154.set ((Int.tmod (wrap64 (x7 + 1)) x5) : Int).toNat (wrap64 ((rd y154 (Int.tmod (wrap64 (x7 + 1)) x5)) + t148)))) else (none))) else (none)))) else (spec_l17Step.l0 k x1 x5 (wrap64 (x7 + 1)) x117000 x117001 y140 y144)) else (none)) else (none))) else (none))) else (none))) else (none)) else (none))) else (none))) else (if 0 ≤ (Int.tmod (wrap64 (x7 + 1)) x5) then (if (Int.tmod (wrap64 (x7 + 1)) x5) < (x1.length : Int) then (if (rd x1 (Int.tmod (wrap64 (x7 + 1)) x5)) > 0 then ((spec_l17Part.f (rd x117001 x7) (wrap64 (Int.tdiv (wrap64 ((rd x117000 x7) * (rd x1 (Int.tmod (wrap64 (x7 + 1)) x5)))) 256)) (rd x117000 x7)).bind fun t160 => (if x7 < (x131000.length : Int) then ((some (x131000.set (x7 : Int).toNat (wrap64 ((rd x131000 x7) - (wrap64 (Int.tdiv (wrap64 ((rd x117000 x7) * (rd x1 (Int.tmod (wrap64 (x7 + 1)) x5)))) 256)))) : List Int)).bind fun y162 => (if (Int.tmod (wrap64 (x7 + 1)) x5) < (x131000.length : Int) then (if x7 < (x131001.length : Int) then ((some (x131001.set (x7 : Int).toNat (wrap64 ((rd x131001 x7) - t160)) : List Int)).bind fun y166 => (if (Int.tmod (wrap64 (x7 + 1)) x5) < (x131001.length : Int) then (spec_l17Step.l0 k x1 x5 (wrap64 (x7 + 1)) x117000 x117001 (y162.set ((Int.tmod (wrap64 (x7 + 1)) x5) : Int).toNat (wrap64 ((rd y162 (Int.tmod (wrap64 (x7 + 1)) x5)) + (wrap64 (Int.tdiv (wrap64 ((rd x117000 x7) * (rd x1 (Int.tmod (wrap64 (x7 + 1)) x5)))) 256))))) (y166.set ((Int.tmod (wrap64 (x7 + 1)) x5) : Int).toNat (wrap64 ((rd y166 (Int.tmod (wrap64 (x7 + 1)) x5)) + t160)))) else (none))) else (none)) else (none))) else (none))) else (spec_l17Step.l0 k x1 x5 (wrap64 (x7 + 1)) x117000 x117001 x131000 x131001)) else (none)) else (none))) else (none))) else (none)) else (none)) else (none)) else (some (x131000, x131001))
def spec_l17Step.f (k : Nat) (l0_0 : List Int) (l0_1 : List Int) (l1 : List Int) : Option (List Int × List Int) := (some (([] : List Int) : List Int)).bind fun y118 => (if y118.length + l0_0.length < 17592186044416 then ((some (([] : List Int) : List Int)).bind fun y124 => (if y124.length + l0_1.length < 17592186044416 then (spec_l17Step.l0 k l1 (l0_0.length : Int) 0 l0_0 l0_1 (y118 ++ l0_0) (y124 ++ l0_1)) else (none))) else (none))
theorem spec_l17Step.mono_l : ∀ k, (∀ y0 y1 y2 y3 y4 y5 y6, LeO (spec_l17Step.l0 k y0 y1 y2 y3 y4 y5 y6) (spec_l17Step.l0 (k + 1) y0 y1 y2 y3 y4 y5 y6))
 | 0 => fun _ _ _ _ _ _ _ r h => by simp [spec_l17Step.l0] at h
 | k + 1 => by
  have ih0 := spec_l17Step.mono_l k
  ·intro y0 y1 y2 y3 y4 y5 y6
   unfold spec_l17Step.l0
   repeat' first
   | (with_reducible exact ih0 _ _ _ _ _ _ _)
   | (with_reducible exact LeO.refl _)
   | (with_reducible exact LeO.none _)
   | (with_reducible refine LeO.ite ?_ ?_)
   | (with_reducible refine LeO.bind ?_ (fun _ => ?_))
   | exact ih0 _ _ _ _ _ _ _
   | exact LeO.none _
   | refine LeO.ite ?_ ?_
   | refine LeO.bind ?_ (fun _ => ?_)
theorem spec_l17Step.mono : ∀ a0 a1 a2 k, LeO (spec_l17Step.f k a0 a1 a2) (spec_l17Step.f (k + 1) a0 a1 a2) := by
 intro a0 a1 a2 k
 have ih0 := spec_l17Step.mono_l k
 unfold spec_l17Step.f
 repeat' first
   | (with_reducible exact ih0 _ _ _ _ _ _ _)
   | (with_reducible exact LeO.refl _)
   | (with_reducible exact LeO.none _)
   | (with_reducible refine LeO.ite ?_ ?_)
   | (with_reducible refine LeO.bind ?_ (fun _ => ?_))
   | exact ih0 _ _ _ _ _ _ _
   | exact LeO.none _
   | refine LeO.ite ?_ ?_
   | refine LeO.bind ?_ (fun _ => ?_)
def spec_l17Step.T2 : Bool × List (List Nat × List Nat) := (true, [([], []), ([], []), ([1], [1]), ([0, 2], [0, 2]), ([], []), ([], []), ([5], [5]), ([4, 6, 3], [4, 6]), ([3, 7], [3, 7]), ([], []), ([9, 8, 7, 0, 1, 2, 3, 4, 5, 6, 7, 8, 9], [8, 9])])
def spec_l17Step.B2 : List Nat := [0, 0, 2, 7, 0, 0, 32, 127, 255, 0, 1023]
theorem spec_l17Step.tab2 : rtab .any (opsOf Try.f27 2) = spec_l17Step.T2 := by kernel_rfl
theorem spec_l17Step.bits2 : waitsOk spec_l17Step.T2.2 spec_l17Step.B2 = true := by kernel_rfl
def spec_l17Step.T11 : Bool × List (List Nat × List Nat) := (true, [([], []), ([0], [0]), ([], []), ([1, 2], [1, 2]), ([3], [3]), ([], []), ([], []), ([5, 6], [5, 6]), ([7], [7]), ([8], [8]), ([4, 9], [4, 9]), ([10], [10]), ([11, 0, 1, 2, 3, 4, 5, 6, 7, 8, 9, 10, 11], [11])])
def spec_l17Step.B11 : List Nat := [0, 1, 0, 7, 15, 0, 0, 96, 224, 480, 1023, 2047, 4095]
theorem spec_l17Step.tab11 : rtab .any (opsOf Try.f27 11) = spec_l17Step.T11 := by kernel_rfl
theorem spec_l17Step.bits11 : waitsOk spec_l17Step.T11.2 spec_l17Step.B11 = true := by kernel_rfl
def spec_l17Step.T13 : Bool × List (List Nat × List Nat) := (true, [([], []), ([0], [0]), ([], []), ([], []), ([3], [3]), ([], []), ([4, 5], [4, 5]), ([6], [6]), ([], []), ([7, 8], [7, 8]), ([1, 2, 0, 1, 2, 3, 4, 5, 6, 7, 8, 9], [1, 2]), ([10, 9, 0, 1, 2, 3, 4, 5, 6, 7, 8, 9], [9, 10])])
def spec_l17Step.B13 : List Nat := [0, 1, 0, 0, 8, 0, 56, 120, 0, 504, 1023, 2047]
theorem spec_l17Step.tab13 : rtab .any (opsOf Try.f27 13) = spec_l17Step.T13 := by kernel_rfl
theorem spec_l17Step.bits13 : waitsOk spec_l17Step.T13.2 spec_l17Step.B13 = true := by kernel_rfl
def spec_l17Step.T14 : Bool × List (List Nat × List Nat) := (true, [([], []), ([0], [0]), ([], []), ([], []), ([3], [3]), ([], []), ([4, 5], [4, 5]), ([6], [6]), ([], []), ([7, 8], [7, 8]), ([1, 2, 0, 1, 2, 3, 4, 5, 6, 7, 8, 9], [1, 2]), ([10, 9, 0, 1, 2, 3, 4, 5, 6, 7, 8, 9], [9, 10])])
def spec_l17Step.B14 : List Nat := [0, 1, 0, 0, 8, 0, 56, 120, 0, 504, 1023, 2047]
theorem spec_l17Step.tab14 : rtab .any (opsOf Try.f27 14) = spec_l17Step.T14 := by kernel_rfl
theorem spec_l17Step.bits14 : waitsOk spec_l17Step.T14.2 spec_l17Step.B14 = true := by kernel_rfl
def spec_l17Step.T15 : Bool × List (List Nat × List Nat) := (true, [([], []), ([0], [0]), ([], []), ([], []), ([3], [3]), ([], []), ([4, 5], [4, 5]), ([6], [6]), ([], []), ([7, 8], [7, 8]), ([1, 2, 0, 1, 2, 3, 4, 5, 6, 7, 8, 9], [1, 2]), ([10, 9, 0, 1, 2, 3, 4, 5, 6, 7, 8, 9], [9, 10])])
def spec_l17Step.B15 : List Nat := [0, 1, 0, 0, 8, 0, 56, 120, 0, 504, 1023, 2047]
theorem spec_l17Step.tab15 : rtab .any (opsOf Try.f27 15) = spec_l17Step.T15 := by kernel_rfl
theorem spec_l17Step.bits15 : waitsOk spec_l17Step.T15.2 spec_l17Step.B15 = true := by kernel_rfl
def spec_l17Step.T16 : Bool × List (List Nat × List Nat) := (true, [([], []), ([0], [0]), ([], []), ([], []), ([3], [3]), ([], []), ([4, 5], [4, 5]), ([6], [6]), ([], []), ([7, 8], [7, 8]), ([1, 2, 0, 1, 2, 3, 4, 5, 6, 7, 8, 9], [1, 2]), ([10, 9, 0, 1, 2, 3, 4, 5, 6, 7, 8, 9], [9, 10])])
def spec_l17Step.B16 : List Nat := [0, 1, 0, 0, 8, 0, 56, 120, 0, 504, 1023, 2047]
theorem spec_l17Step.tab16 : rtab .any (opsOf Try.f27 16) = spec_l17Step.T16 := by kernel_rfl
theorem spec_l17Step.bits16 : waitsOk spec_l17Step.T16.2 spec_l17Step.B16 = true := by kernel_rfl
def spec_l17Step.T20 : Bool × List (List Nat × List Nat) := (true, [([], []), ([0], [0]), ([], []), ([1, 2], [1, 2]), ([3], [3]), ([], []), ([], []), ([5, 6], [5, 6]), ([7], [7]), ([4, 8], [4, 8]), ([9], [9]), ([10, 0, 1, 2, 3, 4, 5, 6, 7, 8, 9, 10], [10])])
def spec_l17Step.B20 : List Nat := [0, 1, 0, 7, 15, 0, 0, 96, 224, 511, 1023, 2047]
theorem spec_l17Step.tab20 : rtab .any (opsOf Try.f27 20) = spec_l17Step.T20 := by kernel_rfl
theorem spec_l17Step.bits20 : waitsOk spec_l17Step.T20.2 spec_l17Step.B20 = true := by kernel_rfl
def spec_l17Step.T22 : Bool × List (List Nat × List Nat) := (true, [([], []), ([0], [0]), ([], []), ([], []), ([3], [3]), ([], []), ([4, 5], [4, 5]), ([6], [6]), ([], []), ([7, 8], [7, 8]), ([1, 2, 0, 1, 2, 3, 4, 5, 6, 7, 8, 9], [1, 2]), ([10, 9, 0, 1, 2, 3, 4, 5, 6, 7, 8, 9], [9, 10])])
def spec_l17Step.B22 : List Nat := [0, 1, 0, 0, 8, 0, 56, 120, 0, 504, 1023, 2047]
theorem spec_l17Step.tab22 : rtab .any (opsOf Try.f27 22) = spec_l17Step.T22 := by kernel_rfl
theorem spec_l17Step.bits22 : waitsOk spec_l17Step.T22.2 spec_l17Step.B22 = true := by kernel_rfl
def spec_l17Step.T23 : Bool × List (List Nat × List Nat) := (true, [([], []), ([0], [0]), ([], []), ([], []), ([3], [3]), ([], []), ([4, 5], [4, 5]), ([6], [6]), ([], []), ([7, 8], [7, 8]), ([1, 2, 0, 1, 2, 3, 4, 5, 6, 7, 8, 9], [1, 2]), ([10, 9, 0, 1, 2, 3, 4, 5, 6, 7, 8, 9], [9, 10])])
def spec_l17Step.B23 : List Nat := [0, 1, 0, 0, 8, 0, 56, 120, 0, 504, 1023, 2047]
theorem spec_l17Step.tab23 : rtab .any (opsOf Try.f27 23) = spec_l17Step.T23 := by kernel_rfl
theorem spec_l17Step.bits23 : waitsOk spec_l17Step.T23.2 spec_l17Step.B23 = true := by kernel_rfl
def spec_l17Step.T24 : Bool × List (List Nat × List Nat) := (true, [([], []), ([0], [0]), ([], []), ([], []), ([3], [3]), ([], []), ([4, 5], [4, 5]), ([6], [6]), ([], []), ([7, 8], [7, 8]), ([1, 2, 0, 1, 2, 3, 4, 5, 6, 7, 8, 9], [1, 2]), ([10, 9, 0, 1, 2, 3, 4, 5, 6, 7, 8, 9], [9, 10])])
def spec_l17Step.B24 : List Nat := [0, 1, 0, 0, 8, 0, 56, 120, 0, 504, 1023, 2047]
theorem spec_l17Step.tab24 : rtab .any (opsOf Try.f27 24) = spec_l17Step.T24 := by kernel_rfl
theorem spec_l17Step.bits24 : waitsOk spec_l17Step.T24.2 spec_l17Step.B24 = true := by kernel_rfl
def spec_l17Step.T25 : Bool × List (List Nat × List Nat) := (true, [([], []), ([0], [0]), ([], []), ([], []), ([3], [3]), ([], []), ([4, 5], [4, 5]), ([6], [6]), ([], []), ([7, 8], [7, 8]), ([1, 2, 0, 1, 2, 3, 4, 5, 6, 7, 8, 9], [1, 2]), ([10, 9, 0, 1, 2, 3, 4, 5, 6, 7, 8, 9], [9, 10])])
def spec_l17Step.B25 : List Nat := [0, 1, 0, 0, 8, 0, 56, 120, 0, 504, 1023, 2047]
theorem spec_l17Step.tab25 : rtab .any (opsOf Try.f27 25) = spec_l17Step.T25 := by kernel_rfl
theorem spec_l17Step.bits25 : waitsOk spec_l17Step.T25.2 spec_l17Step.B25 = true := by kernel_rfl
set_option maxHeartbeats 8000000 in
set_option maxRecDepth 100000 in
theorem spec_l17Step.calls (k : Nat) (A0_0 : Option Addr) (c0_0 : Nat) (l0_0 : List Int) (A0_1 : Option Addr) (c0_1 : Nat) (l0_1 : List Int) (A1 : Option Addr) (c1 : Nat) (l1 : List Int) (r1 : List Int) (r2 : List Int) (w : World) (hr0_0 : Kd.C (Kd.int .i64) w A0_0 l0_0.length l0_0) (hc0_0 : l0_0.length ≤ c0_0) (hr0_1 : Kd.C (Kd.int .i64) w A0_1 l0_1.length l0_1) (hc0_1 : l0_1.length ≤ c0_1) (hr1 : Kd.C (Kd.int .i64) w A1 l1.length l1) (hc1 : l1.length ≤ c1) (h : spec_l17Step.f k l0_0 l0_1 l1 = some (r1, r2)) :
  Calls Try.prog 27 #[.agg #[.slice A0_0 l0_0.length c0_0, .slice A0_1 l0_1.length c0_1], .slice A1 l1.length c1] w fun e w' => ∃ v0_ v1_ : Value, e = .returned (.agg #[v0_, v1_]) ∧ Kd.R (Kd.int .i64) 2 w' w.heap.size (fun k_ => some k_ ≠ (v1_ : Value).ownBlock) v0_ r1 ∧ Kd.R (Kd.int .i64) 2 w' w.heap.size (fun k_ => some k_ ≠ (v0_ : Value).ownBlock) v1_ r2 ∧ Below w.heap.size w w' := by
 have hu26 := Try.underlying26; have HR0_0 := Aside0.mk hr0_0; have HC0_0 := Aside0.mk hc0_0; clear hr0_0 hc0_0; have HR0_1 := Aside0.mk hr0_1; have HC0_1 := Aside0.mk hc0_1; clear hr0_1 hc0_1; have HR1 := Aside0.mk hr1; have HC1 := Aside0.mk hc1; clear hr1 hc1
 have HB := Aside0.mk (Below.refl w.heap.size w)
 have H : ((some (([] : List Int) : List Int)).bind fun y118 => (if y118.length + l0_0.length < 17592186044416 then ((some (([] : List Int) : List Int)).bind fun y124 => (if y124.length + l0_1.length < 17592186044416 then (spec_l17Step.l0 k l1 (l0_0.length : Int) 0 l0_0 l0_1 (y118 ++ l0_0) (y124 ++ l0_1)) else (none))) else (none))) = some (r1, r2) := h
 clear h
 obtain ⟨y118, hy118⟩ : ∃ y_ : List Int, y_ = (([] : List Int)) := ⟨_, rfl⟩
 replace H : (if y118.length + l0_0.length < 17592186044416 then ((some (([] : List Int) : List Int)).bind fun y124 => (if y124.length + l0_1.length < 17592186044416 then (spec_l17Step.l0 k l1 (l0_0.length : Int) 0 l0_0 l0_1 (y118 ++ l0_0) (y124 ++ l0_1)) else (none))) else (none)) = some (r1, r2) := by first | (rw [hy118]; with_reducible exact H) | (have H2_ := (Option.bind_some _ _).symm.trans H; rw [hy118]; with_reducible exact H2_) | (have H2_ := (Option.bind_some _ _).symm.trans H; with_reducible exact H2_) | with_reducible exact H | (rw [hy118]; exact H) | exact H
 have Ny118 := Aside0.mk hy118; clear hy118
 obtain ⟨c3, H⟩ := ifS_ H
 have LMc3 := Aside0.mk c3; clear c3
 obtain ⟨y121, hy121⟩ : ∃ y_ : List Int, y_ = (y118 ++ l0_0) := ⟨_, rfl⟩
 replace H : ((some (([] : List Int) : List Int)).bind fun y124 => (if y124.length + l0_1.length < 17592186044416 then (spec_l17Step.l0 k l1 (l0_0.length : Int) 0 l0_0 l0_1 y121 (y124 ++ l0_1)) else (none))) = some (r1, r2) := by first | (rw [hy121]; with_reducible exact H) | (have H2_ := (Option.bind_some _ _).symm.trans H; rw [hy121]; with_reducible exact H2_) | (have H2_ := (Option.bind_some _ _).symm.trans H; with_reducible exact H2_) | with_reducible exact H | (rw [hy121]; exact H) | exact H
 have Ny121 := Aside0.mk hy121; clear hy121
 obtain ⟨y124, hy124⟩ : ∃ y_ : List Int, y_ = (([] : List Int)) := ⟨_, rfl⟩
 replace H : (if y124.length + l0_1.length < 17592186044416 then (spec_l17Step.l0 k l1 (l0_0.length : Int) 0 l0_0 l0_1 y121 (y124 ++ l0_1)) else (none)) = some (r1, r2) := by first | (rw [hy124]; with_reducible exact H) | (have H2_ := (Option.bind_some _ _).symm.trans H; rw [hy124]; with_reducible exact H2_) | (have H2_ := (Option.bind_some _ _).symm.trans H; with_reducible exact H2_) | with_reducible exact H | (rw [hy124]; exact H) | exact H
 have Ny124 := Aside0.mk hy124; clear hy124
 obtain ⟨c4, H⟩ := ifS_ H
 have LMc4 := Aside0.mk c4; clear c4
 obtain ⟨y127, hy127⟩ : ∃ y_ : List Int, y_ = (y124 ++ l0_1) := ⟨_, rfl⟩
 replace H : (spec_l17Step.l0 k l1 (l0_0.length : Int) 0 l0_0 l0_1 y121 y127) = some (r1, r2) := by first | (rw [hy127]; with_reducible exact H) | (have H2_ := (Option.bind_some _ _).symm.trans H; rw [hy127]; with_reducible exact H2_) | (have H2_ := (Option.bind_some _ _).symm.trans H; with_reducible exact H2_) | with_reducible exact H | (rw [hy127]; exact H) | exact H
 have Ny127 := Aside0.mk hy127; clear hy127; have H' := Aside0.mk H; clear H
 go_enter Try.func27, Try.ntmps27
 try go_wp2_with (first | ((with_reducible refine gate_dst (N := 2) rfl ?_); refine box_event ?hg (N := 2) ?hd (cs := #[.slice A0_0 l0_0.length c0_0, .slice A0_1 l0_1.length c0_1]) (t := 26) ?hr ?_; (case hd => rfl); (case hg => rfl); (case hr => first | (go_simp; done) | (go_simp; rfl)); intro gb116 hg w5 hbox hb; have BK116 := Aside0.mk (hbox); have GW116 := gE_ HB hg; have GE116 := gE_ HB hg; replace HB := bS_ HB hb; clear hb hbox hg) | ((with_reducible refine gate_dst (N := 4) rfl ?_); refine box_event ?hg (N := 4) ?hd (cs := #[.slice none 0 0, .slice none 0 0]) (t := 26) ?hr ?_; (case hd => rfl); (case hg => rfl); (case hr => first | (go_simp; done) | (go_simp; rfl)); intro gb117 hg w6 hbox hb; have BK117 := Aside0.mk (hbox); have GW117 := gE_ HB hg; have GE117 := gE_ HB hg; replace HB := bS_ HB hb; have NB116_117 := nL_ BK116 hg; have NB117_116 := nG_ BK116 hg; replace BK116 := bB_ BK116 hb; clear hb hbox hg; have hnb7 := NB116_117.out; have hnc7 := NB117_116.out; have hcz8_0 : w6.cell? ⟨gb116, 0, none⟩ = some (.slice A0_0 l0_0.length c0_0) := (blk_cell BK116.out 0).trans rfl; have hcz8_1 : w6.cell? ⟨gb116, 1, none⟩ = some (.slice A0_1 l0_1.length c0_1) := (blk_cell BK116.out 1).trans rfl; have hfz8_0 := blk_frozen BK116.out 0; have hfz8_1 := blk_frozen BK116.out 1))
 replace BK116 := Aside0.mk (blk_drew BK116.out)
 replace BK117 := Aside0.mk (blk_drew BK117.out)
 replace HB := Aside0.mk (below_drew1 HB.out)
 refine start_ (n := 11) (S := fun w' => w'.cell? ⟨gb116, 0, none⟩ = some (.slice A0_0 l0_0.length c0_0) ∧ w'.cell? ⟨gb116, 1, none⟩ = some (.slice A0_1 l0_1.length c0_1)) (ds := []) #[false, false, false, false, false, false, false, false, false, false, false] (by kernel_rfl) rfl rfl ⟨(blk_cell BK116.out 0).trans rfl, (blk_cell BK116.out 1).trans rfl⟩ (fun hHeld => ?_); refine with_tabW spec_l17Step.tab2 spec_l17Step.bits2 (fun HT_ HW_ => ?_)
 generalize w6.drew = w9 at BK116 BK117 HB hHeld ⊢
 refine pT_ 1 (some 20) #[false, true, false, false, false, false, false, false, false, false, false] HT_ ?_
 refine pT_ 5 (some 24) #[false, true, false, false, false, true, false, false, false, false, false] HT_ ?_
 refine tT_ 2 (some 21) #[false, true, true, false, false, true, false, false, false, false, false] HT_ HW_ hHeld ?_ (hy := by rintro w' ⟨s0, s1⟩; go_simp; with_reducible rfl)
 refine tT_ 6 (some 25) #[false, true, true, false, false, true, true, false, false, false, false] HT_ HW_ hHeld ?_ (hy := by rintro w' ⟨s0, s1⟩; go_simp; with_reducible rfl)
 refine join_ (σ := Value × Value × Value × Value × Nat) 1 #[true, true, true, true, true, true, true, true, true, true, false] (fun s_ => [(19, s_.1), (22, s_.2.1), (23, s_.2.2.1), (26, s_.2.2.2.1), (6, .pointer (some ⟨s_.2.2.2.2, 0, none⟩)), (27, .agg #[s_.2.1, s_.2.2.2.1])]) (fun s_ w' => (w'.cell? ⟨gb116, 0, none⟩ = some (.slice A0_0 l0_0.length c0_0) ∧ w'.cell? ⟨gb116, 1, none⟩ = some (.slice A0_1 l0_1.length c0_1)) ∧ (Kd.R (Kd.int .i64) 2 w' w.heap.size (fun k_ => some k_ ≠ (s_.2.2.2.1 : Value).ownBlock) s_.2.1 y121) ∧ (Kd.R (Kd.int .i64) 2 w' w.heap.size (fun k_ => some k_ ≠ (s_.2.1 : Value).ownBlock) s_.2.2.2.1 y127) ∧ (w'.heap[gb116]? = some (.cells #[.slice A0_0 l0_0.length c0_0, .slice A0_1 l0_1.length c0_1] 26 (0, 0))) ∧ (w'.heap[gb117]? = some (.cells #[.slice none 0 0, .slice none 0 0] 26 (0, 0))) ∧ (w'.heap[s_.2.2.2.2]? = some (.cells #[.slice none 0 0, .slice none 0 0] 26 (0, 0))) ∧ (w.heap.size ≤ s_.2.2.2.2) ∧ (w.heap.size ≤ s_.2.2.2.2) ∧ (gb116 ≠ s_.2.2.2.2) ∧ (s_.2.2.2.2 ≠ gb116) ∧ (gb117 ≠ s_.2.2.2.2) ∧ (s_.2.2.2.2 ≠ gb117) ∧ (Below w.heap.size w w')) ?_ ?_
 rotate_left
 ·intro hJ0_3_4_7_9
  refine join_ (σ := Value × Value × Value × Value) 2 #[true, true, true, true, true, true, true, true, true, false, false] (fun s_ => [(19, s_.1), (22, s_.2.1), (23, s_.2.2.1), (26, s_.2.2.2), (27, .agg #[s_.2.1, s_.2.2.2])]) (fun s_ w' => (w'.cell? ⟨gb116, 0, none⟩ = some (.slice A0_0 l0_0.length c0_0) ∧ w'.cell? ⟨gb116, 1, none⟩ = some (.slice A0_1 l0_1.length c0_1)) ∧ (Kd.R (Kd.int .i64) 2 w' w.heap.size (fun k_ => some k_ ≠ (s_.2.2.2 : Value).ownBlock) s_.2.1 y121) ∧ (Kd.R (Kd.int .i64) 2 w' w.heap.size (fun k_ => some k_ ≠ (s_.2.1 : Value).ownBlock) s_.2.2.2 y127) ∧ (w'.heap[gb116]? = some (.cells #[.slice A0_0 l0_0.length c0_0, .slice A0_1 l0_1.length c0_1] 26 (0, 0))) ∧ (w'.heap[gb117]? = some (.cells #[.slice none 0 0, .slice none 0 0] 26 (0, 0))) ∧ (Below w.heap.size w w')) ?_ ?_
  rotate_left
  ·intro hJ0_3_4_7
   refine join_ (σ := Value × Value × Value × Nat) 3 #[true, true, true, true, true, true, true, false, false, true, false] (fun s_ => [(19, s_.1), (22, s_.2.1), (23, s_.2.2.1), (6, .pointer (some ⟨s_.2.2.2, 0, none⟩))]) (fun s_ w' => (w'.cell? ⟨gb116, 0, none⟩ = some (.slice A0_0 l0_0.length c0_0) ∧ w'.cell? ⟨gb116, 1, none⟩ = some (.slice A0_1 l0_1.length c0_1)) ∧ (Kd.R (Kd.int .i64) 2 w' w.heap.size (fun k_ => some k_ ≠ (s_.2.2.1 : Value).ownBlock) s_.2.1 y121) ∧ (Kd.R (Kd.int .i64) 2 w' w.heap.size (fun k_ => some k_ ≠ (s_.2.1 : Value).ownBlock) s_.2.2.1 y124) ∧ (w'.heap[gb116]? = some (.cells #[.slice A0_0 l0_0.length c0_0, .slice A0_1 l0_1.length c0_1] 26 (0, 0))) ∧ (w'.heap[gb117]? = some (.cells #[.slice none 0 0, .slice none 0 0] 26 (0, 0))) ∧ (w'.heap[s_.2.2.2]? = some (.cells #[.slice none 0 0, .slice none 0 0] 26 (0, 0))) ∧ (w.heap.size ≤ s_.2.2.2) ∧ (w.heap.size ≤ s_.2.2.2) ∧ (gb116 ≠ s_.2.2.2) ∧ (s_.2.2.2 ≠ gb116) ∧ (gb117 ≠ s_.2.2.2) ∧ (s_.2.2.2 ≠ gb117) ∧ (Below w.heap.size w w')) ?_ ?_
   rotate_left
   ·intro hJ0_3_4_9
    refine join_ (σ := Value × Value × Value) 4 #[true, true, true, true, true, true, true, false, false, false, false] (fun s_ => [(19, s_.1), (22, s_.2.1), (23, s_.2.2)]) (fun s_ w' => (w'.cell? ⟨gb116, 0, none⟩ = some (.slice A0_0 l0_0.length c0_0) ∧ w'.cell? ⟨gb116, 1, none⟩ = some (.slice A0_1 l0_1.length c0_1)) ∧ (Kd.R (Kd.int .i64) 2 w' w.heap.size (fun k_ => some k_ ≠ (s_.2.2 : Value).ownBlock) s_.2.1 y121) ∧ (Kd.R (Kd.int .i64) 2 w' w.heap.size (fun k_ => some k_ ≠ (s_.2.1 : Value).ownBlock) s_.2.2 y124) ∧ (w'.heap[gb116]? = some (.cells #[.slice A0_0 l0_0.length c0_0, .slice A0_1 l0_1.length c0_1] 26 (0, 0))) ∧ (w'.heap[gb117]? = some (.cells #[.slice none 0 0, .slice none 0 0] 26 (0, 0))) ∧ (Below w.heap.size w w')) ?_ ?_
    rotate_left
    ·intro hJ0_3_4
     refine join_ (σ := Value × Value × Nat) 4 #[true, true, true, true, false, true, true, false, false, true, false] (fun s_ => [(19, s_.1), (22, s_.2.1), (6, .pointer (some ⟨s_.2.2, 0, none⟩))]) (fun s_ w' => (w'.cell? ⟨gb116, 0, none⟩ = some (.slice A0_0 l0_0.length c0_0) ∧ w'.cell? ⟨gb116, 1, none⟩ = some (.slice A0_1 l0_1.length c0_1)) ∧ (Kd.R (Kd.int .i64) 2 w' w.heap.size (fun _ => True) s_.2.1 y121) ∧ (w'.heap[gb116]? = some (.cells #[.slice A0_0 l0_0.length c0_0, .slice A0_1 l0_1.length c0_1] 26 (0, 0))) ∧ (w'.heap[gb117]? = some (.cells #[.slice none 0 0, .slice none 0 0] 26 (0, 0))) ∧ (w'.heap[s_.2.2]? = some (.cells #[.slice none 0 0, .slice none 0 0] 26 (0, 0))) ∧ (w.heap.size ≤ s_.2.2) ∧ (w.heap.size ≤ s_.2.2) ∧ (gb116 ≠ s_.2.2) ∧ (s_.2.2 ≠ gb116) ∧ (gb117 ≠ s_.2.2) ∧ (s_.2.2 ≠ gb117) ∧ (Below w.heap.size w w')) ?_ ?_
     rotate_left
     ·intro hJ0_3_9
      refine join_ (σ := Value × Value × Nat) 4 #[true, true, true, false, true, true, true, false, false, true, false] (fun s_ => [(19, s_.1), (23, s_.2.1), (6, .pointer (some ⟨s_.2.2, 0, none⟩))]) (fun s_ w' => (w'.cell? ⟨gb116, 0, none⟩ = some (.slice A0_0 l0_0.length c0_0) ∧ w'.cell? ⟨gb116, 1, none⟩ = some (.slice A0_1 l0_1.length c0_1)) ∧ (Kd.R (Kd.int .i64) 2 w' w.heap.size (fun k_ => some k_ ≠ (s_.2.1 : Value).ownBlock) s_.1 y118) ∧ (Kd.R (Kd.int .i64) 2 w' w.heap.size (fun k_ => some k_ ≠ (s_.1 : Value).ownBlock) s_.2.1 y124) ∧ (w'.heap[gb116]? = some (.cells #[.slice A0_0 l0_0.length c0_0, .slice A0_1 l0_1.length c0_1] 26 (0, 0))) ∧ (w'.heap[gb117]? = some (.cells #[.slice none 0 0, .slice none 0 0] 26 (0, 0))) ∧ (w'.heap[s_.2.2]? = some (.cells #[.slice none 0 0, .slice none 0 0] 26 (0, 0))) ∧ (w.heap.size ≤ s_.2.2) ∧ (w.heap.size ≤ s_.2.2) ∧ (gb116 ≠ s_.2.2) ∧ (s_.2.2 ≠ gb116) ∧ (gb117 ≠ s_.2.2) ∧ (s_.2.2 ≠ gb117) ∧ (Below w.heap.size w w')) ?_ ?_
      rotate_left
      ·intro hJ0_4_9
       refine join_ (σ := Value × Value) 5 #[true, true, true, true, false, true, true, false, false, false, false] (fun s_ => [(19, s_.1), (22, s_.2)]) (fun s_ w' => (w'.cell? ⟨gb116, 0, none⟩ = some (.slice A0_0 l0_0.length c0_0) ∧ w'.cell? ⟨gb116, 1, none⟩ = some (.slice A0_1 l0_1.length c0_1)) ∧ (Kd.R (Kd.int .i64) 2 w' w.heap.size (fun _ => True) s_.2 y121) ∧ (w'.heap[gb116]? = some (.cells #[.slice A0_0 l0_0.length c0_0, .slice A0_1 l0_1.length c0_1] 26 (0, 0))) ∧ (w'.heap[gb117]? = some (.cells #[.slice none 0 0, .slice none 0 0] 26 (0, 0))) ∧ (Below w.heap.size w w')) ?_ ?_
       rotate_left
       ·intro hJ0_3
        refine join_ (σ := Value × Value) 5 #[true, true, true, false, true, true, true, false, false, false, false] (fun s_ => [(19, s_.1), (23, s_.2)]) (fun s_ w' => (w'.cell? ⟨gb116, 0, none⟩ = some (.slice A0_0 l0_0.length c0_0) ∧ w'.cell? ⟨gb116, 1, none⟩ = some (.slice A0_1 l0_1.length c0_1)) ∧ (Kd.R (Kd.int .i64) 2 w' w.heap.size (fun k_ => some k_ ≠ (s_.2 : Value).ownBlock) s_.1 y118) ∧ (Kd.R (Kd.int .i64) 2 w' w.heap.size (fun k_ => some k_ ≠ (s_.1 : Value).ownBlock) s_.2 y124) ∧ (w'.heap[gb116]? = some (.cells #[.slice A0_0 l0_0.length c0_0, .slice A0_1 l0_1.length c0_1] 26 (0, 0))) ∧ (w'.heap[gb117]? = some (.cells #[.slice none 0 0, .slice none 0 0] 26 (0, 0))) ∧ (Below w.heap.size w w')) ?_ ?_
        rotate_left
        ·intro hJ0_4
         refine join_ (σ := Value × Nat) 5 #[true, true, true, false, false, true, true, false, false, true, false] (fun s_ => [(19, s_.1), (6, .pointer (some ⟨s_.2, 0, none⟩))]) (fun s_ w' => (w'.cell? ⟨gb116, 0, none⟩ = some (.slice A0_0 l0_0.length c0_0) ∧ w'.cell? ⟨gb116, 1, none⟩ = some (.slice A0_1 l0_1.length c0_1)) ∧ (Kd.R (Kd.int .i64) 2 w' w.heap.size (fun _ => True) s_.1 y118) ∧ (w'.heap[gb116]? = some (.cells #[.slice A0_0 l0_0.length c0_0, .slice A0_1 l0_1.length c0_1] 26 (0, 0))) ∧ (w'.heap[gb117]? = some (.cells #[.slice none 0 0, .slice none 0 0] 26 (0, 0))) ∧ (w'.heap[s_.2]? = some (.cells #[.slice none 0 0, .slice none 0 0] 26 (0, 0))) ∧ (w.heap.size ≤ s_.2) ∧ (w.heap.size ≤ s_.2) ∧ (gb116 ≠ s_.2) ∧ (s_.2 ≠ gb116) ∧ (gb117 ≠ s_.2) ∧ (s_.2 ≠ gb117) ∧ (Below w.heap.size w w')) ?_ ?_
         rotate_left
         ·intro hJ0_9
          refine join_ (σ := Value × Nat) 5 #[false, true, true, false, true, true, true, false, false, true, false] (fun s_ => [(23, s_.1), (6, .pointer (some ⟨s_.2, 0, none⟩))]) (fun s_ w' => (w'.cell? ⟨gb116, 0, none⟩ = some (.slice A0_0 l0_0.length c0_0) ∧ w'.cell? ⟨gb116, 1, none⟩ = some (.slice A0_1 l0_1.length c0_1)) ∧ (Kd.R (Kd.int .i64) 2 w' w.heap.size (fun _ => True) s_.1 y124) ∧ (w'.heap[gb116]? = some (.cells #[.slice A0_0 l0_0.length c0_0, .slice A0_1 l0_1.length c0_1] 26 (0, 0))) ∧ (w'.heap[gb117]? = some (.cells #[.slice none 0 0, .slice none 0 0] 26 (0, 0))) ∧ (w'.heap[s_.2]? = some (.cells #[.slice none 0 0, .slice none 0 0] 26 (0, 0))) ∧ (w.heap.size ≤ s_.2) ∧ (w.heap.size ≤ s_.2) ∧ (gb116 ≠ s_.2) ∧ (s_.2 ≠ gb116) ∧ (gb117 ≠ s_.2) ∧ (s_.2 ≠ gb117) ∧ (Below w.heap.size w w')) ?_ ?_
          rotate_left
          ·intro hJ4_9
           refine join_ (σ := Value) 6 #[true, true, true, false, false, true, true, false, false, false, false] (fun s_ => [(19, s_)]) (fun s_ w' => (w'.cell? ⟨gb116, 0, none⟩ = some (.slice A0_0 l0_0.length c0_0) ∧ w'.cell? ⟨gb116, 1, none⟩ = some (.slice A0_1 l0_1.length c0_1)) ∧ (Kd.R (Kd.int .i64) 2 w' w.heap.size (fun _ => True) s_ y118) ∧ (w'.heap[gb116]? = some (.cells #[.slice A0_0 l0_0.length c0_0, .slice A0_1 l0_1.length c0_1] 26 (0, 0))) ∧ (w'.heap[gb117]? = some (.cells #[.slice none 0 0, .slice none 0 0] 26 (0, 0))) ∧ (Below w.heap.size w w')) ?_ ?_
           rotate_left
           ·intro hJ0
            refine join_ (σ := Value) 6 #[false, true, true, false, true, true, true, false, false, false, false] (fun s_ => [(23, s_)]) (fun s_ w' => (w'.cell? ⟨gb116, 0, none⟩ = some (.slice A0_0 l0_0.length c0_0) ∧ w'.cell? ⟨gb116, 1, none⟩ = some (.slice A0_1 l0_1.length c0_1)) ∧ (Kd.R (Kd.int .i64) 2 w' w.heap.size (fun _ => True) s_ y124) ∧ (w'.heap[gb116]? = some (.cells #[.slice A0_0 l0_0.length c0_0, .slice A0_1 l0_1.length c0_1] 26 (0, 0))) ∧ (w'.heap[gb117]? = some (.cells #[.slice none 0 0, .slice none 0 0] 26 (0, 0))) ∧ (Below w.heap.size w w')) ?_ ?_
            rotate_left
            ·intro hJ4
             refine join_ (σ := Nat) 6 #[false, true, true, false, false, true, true, false, false, true, false] (fun s_ => [(6, .pointer (some ⟨s_, 0, none⟩))]) (fun s_ w' => (w'.cell? ⟨gb116, 0, none⟩ = some (.slice A0_0 l0_0.length c0_0) ∧ w'.cell? ⟨gb116, 1, none⟩ = some (.slice A0_1 l0_1.length c0_1)) ∧ (w'.heap[gb116]? = some (.cells #[.slice A0_0 l0_0.length c0_0, .slice A0_1 l0_1.length c0_1] 26 (0, 0))) ∧ (w'.heap[gb117]? = some (.cells #[.slice none 0 0, .slice none 0 0] 26 (0, 0))) ∧ (w'.heap[s_]? = some (.cells #[.slice none 0 0, .slice none 0 0] 26 (0, 0))) ∧ (w.heap.size ≤ s_) ∧ (w.heap.size ≤ s_) ∧ (gb116 ≠ s_) ∧ (s_ ≠ gb116) ∧ (gb117 ≠ s_) ∧ (s_ ≠ gb117) ∧ (Below w.heap.size w w')) ?_ ?_
             rotate_left
             ·intro hJ9
              refine three_ (i := 0) (j := 4) (k := 9) (Ni := some 19) (Nj := some 23) (Nk := some 6) #[true, true, true, false, false, true, true, false, false, false, false] #[false, true, true, false, true, true, true, false, false, false, false] #[false, true, true, false, false, true, true, false, false, true, false] rfl rfl rfl rfl rfl rfl (three_of HT_.out (by kernel_rfl)) (by decide) (by decide) (by decide) (fun K hK => ?_) (fun K hK => ?_) (fun K hK => ?_)
              ·skip
               refine Kd.R_lit_step (Kd.int .i64) _ 2 ?hg (N := 19) ?hd (xs := ([] : List Int)) (inner := []) (ok := fun _ => True) (okp := fun _ => True) ?hr ?hp (fun _ hk => hk) trivial (Below.refl _ _) (Nat.le_refl _) (by simp) ?_; (case hd => rfl); (case hg => rfl); (case hr => first | (go_simp; done) | (go_simp; rfl)); (case hp => exact (Reps.none _ _))
               intro v119 w10 ho11 hb hg_ hnew_
               clear hg_ hnew_
               (first | rw [← Ny118.out] at ho11 | (simp only [Int.reduceToNat] at ho11; rw [← Ny118.out] at ho11))
               have HO120 := rL_ ho11 HB; replace BK116 := bB_ BK116 hb; replace BK117 := bB_ BK117 hb; replace HB := bS_ HB hb; clear hb ho11
               refine hK.out _ _ ⟨(blk_cell BK116.out 0).trans rfl, (blk_cell BK116.out 1).trans rfl⟩ (fun hHeld => ?_)
               clear hK K
               refine nS_ (some 19) ?_
               exact norm_ (by simp only [putAll, Act.put, List.setIfInBounds_toArray, List.set_cons_zero, List.set_cons_succ] <;> rfl) (hJ0 (v119) _ ⟨hHeld, (rT_ HO120), (bT_ BK116), (bT_ BK117), (by repeat (first | (with_reducible first | exact HB.out | apply below_alloc | apply pw_below_drewN | apply below_drew1 | refine below_set ?_ GE116.out | refine below_set ?_ GE117.out) | exact HB.out))⟩)
              ·skip
               refine Kd.R_lit_step (Kd.int .i64) _ 2 ?hg (N := 23) ?hd (xs := ([] : List Int)) (inner := []) (ok := fun _ => True) (okp := fun _ => True) ?hr ?hp (fun _ hk => hk) trivial (Below.refl _ _) (Nat.le_refl _) (by simp) ?_; (case hd => rfl); (case hg => rfl); (case hr => first | (go_simp; done) | (go_simp; rfl)); (case hp => exact (Reps.none _ _))
               intro v125 w10 ho11 hb hg_ hnew_
               clear hg_ hnew_
               (first | rw [← Ny124.out] at ho11 | (simp only [Int.reduceToNat] at ho11; rw [← Ny124.out] at ho11))
               have HO126 := rL_ ho11 HB; replace BK116 := bB_ BK116 hb; replace BK117 := bB_ BK117 hb; replace HB := bS_ HB hb; clear hb ho11
               refine hK.out _ _ ⟨(blk_cell BK116.out 0).trans rfl, (blk_cell BK116.out 1).trans rfl⟩ (fun hHeld => ?_)
               clear hK K
               refine nS_ (some 23) ?_
               exact norm_ (by simp only [putAll, Act.put, List.setIfInBounds_toArray, List.set_cons_zero, List.set_cons_succ] <;> rfl) (hJ4 (v125) _ ⟨hHeld, (rT_ HO126), (bT_ BK116), (bT_ BK117), (by repeat (first | (with_reducible first | exact HB.out | apply below_alloc | apply pw_below_drewN | apply below_drew1 | refine below_set ?_ GE116.out | refine below_set ?_ GE117.out) | exact HB.out))⟩)
              ·skip
               refine box_step ?hg (N := 6) ?hd (cs := #[.slice none 0 0, .slice none 0 0]) (t := 26) ?hr ?_; (case hd => rfl); (case hg => rfl); (case hr => first | (go_simp; done) | (go_simp; rfl))
               intro gb130 hg w10 hbox hb
               have BK130 := Aside0.mk (hbox)
               have GW130 := gE_ HB hg; have GE130 := gE_ HB hg; replace HB := bS_ HB hb; have NB116_130 := nL_ BK116 hg; have NB130_116 := nG_ BK116 hg; replace BK116 := bB_ BK116 hb; have NB117_130 := nL_ BK117 hg; have NB130_117 := nG_ BK117 hg; replace BK117 := bB_ BK117 hb; clear hb hbox hg
               refine hK.out _ _ ⟨(blk_cell BK116.out 0).trans rfl, (blk_cell BK116.out 1).trans rfl⟩ (fun hHeld => ?_)
               clear hK K
               refine nS_ (some 6) ?_
               exact norm_ (by simp only [putAll, Act.put, List.setIfInBounds_toArray, List.set_cons_zero, List.set_cons_succ] <;> rfl) (hJ9 (gb130) _ ⟨hHeld, (bT_ BK116), (bT_ BK117), (bT_ BK130), GW130.out, GE130.out, NB116_130.out, NB130_116.out, NB117_130.out, NB130_117.out, (by repeat (first | (with_reducible first | exact HB.out | apply below_alloc | apply pw_below_drewN | apply below_drew1 | refine below_set ?_ GE116.out | refine below_set ?_ GE117.out | refine below_set ?_ GE130.out) | exact HB.out))⟩)
             ·skip
              rintro gb130 w11 ⟨hS_, h0_, h1_, h2_, h3_, h4_, h5_, h6_, h7_, h8_, h9_⟩
              try dsimp only at h0_ h1_ h2_ h3_ h4_ h5_ h6_ h7_ h8_ h9_
              replace BK116 := Aside0.mk h0_; replace BK117 := Aside0.mk h1_; have BK130 := Aside0.mk h2_; have GW130 := Aside0.mk h3_; have GE130 := Aside0.mk h4_; have NB116_130 := Aside0.mk h5_; have NB130_116 := Aside0.mk h6_; have NB117_130 := Aside0.mk h7_; have NB130_117 := Aside0.mk h8_; replace HB := Aside0.mk h9_; clear h0_ h1_ h2_ h3_ h4_ h5_ h6_ h7_ h8_ h9_
              have hHeld : w11.cell? ⟨gb116, 0, none⟩ = some (.slice A0_0 l0_0.length c0_0) ∧ w11.cell? ⟨gb116, 1, none⟩ = some (.slice A0_1 l0_1.length c0_1) := hS_
              refine norm_ (a' := ?_) ?_ ?_
              rotate_left
              ·simp only [putAll, Act.put, List.setIfInBounds_toArray, List.set_cons_zero, List.set_cons_succ]
               rfl
              refine two_ (i := 0) (j := 4) (Ni := some 19) (Nj := some 23) #[true, true, true, false, false, true, true, false, false, true, false] #[false, true, true, false, true, true, true, false, false, true, false] rfl rfl rfl rfl (two_of HT_.out (by kernel_rfl)) (by decide) (by decide) (fun K hK => ?_) (fun K hK => ?_)
              ·skip
               refine Kd.R_lit_step (Kd.int .i64) _ 2 ?hg (N := 19) ?hd (xs := ([] : List Int)) (inner := []) (ok := fun _ => True) (okp := fun _ => True) ?hr ?hp (fun _ hk => hk) trivial (Below.refl _ _) (Nat.le_refl _) (by simp) ?_; (case hd => rfl); (case hg => rfl); (case hr => first | (go_simp; done) | (go_simp; rfl)); (case hp => exact (Reps.none _ _))
               intro v119 w12 ho13 hb hg_ hnew_
               clear hg_ hnew_
               (first | rw [← Ny118.out] at ho13 | (simp only [Int.reduceToNat] at ho13; rw [← Ny118.out] at ho13))
               have HO120 := rL_ ho13 HB; replace BK116 := bB_ BK116 hb; replace BK117 := bB_ BK117 hb; replace BK130 := bB_ BK130 hb; replace HB := bS_ HB hb; clear hb ho13
               refine hK.out _ _ ⟨(blk_cell BK116.out 0).trans rfl, (blk_cell BK116.out 1).trans rfl⟩ (fun hHeld => ?_)
               clear hK K
               refine nS_ (some 19) ?_
               exact norm_ (by simp only [putAll, Act.put, List.setIfInBounds_toArray, List.set_cons_zero, List.set_cons_succ] <;> rfl) (hJ0_9 (v119, gb130) _ ⟨hHeld, (rT_ HO120), (bT_ BK116), (bT_ BK117), (bT_ BK130), GW130.out, GE130.out, NB116_130.out, NB130_116.out, NB117_130.out, NB130_117.out, (by repeat (first | (with_reducible first | exact HB.out | apply below_alloc | apply pw_below_drewN | apply below_drew1 | refine below_set ?_ GE116.out | refine below_set ?_ GE117.out | refine below_set ?_ GE130.out) | exact HB.out))⟩)
              ·skip
               refine Kd.R_lit_step (Kd.int .i64) _ 2 ?hg (N := 23) ?hd (xs := ([] : List Int)) (inner := []) (ok := fun _ => True) (okp := fun _ => True) ?hr ?hp (fun _ hk => hk) trivial (Below.refl _ _) (Nat.le_refl _) (by simp) ?_; (case hd => rfl); (case hg => rfl); (case hr => first | (go_simp; done) | (go_simp; rfl)); (case hp => exact (Reps.none _ _))
               intro v125 w12 ho13 hb hg_ hnew_
               clear hg_ hnew_
               (first | rw [← Ny124.out] at ho13 | (simp only [Int.reduceToNat] at ho13; rw [← Ny124.out] at ho13))
               have HO126 := rL_ ho13 HB; replace BK116 := bB_ BK116 hb; replace BK117 := bB_ BK117 hb; replace BK130 := bB_ BK130 hb; replace HB := bS_ HB hb; clear hb ho13
               refine hK.out _ _ ⟨(blk_cell BK116.out 0).trans rfl, (blk_cell BK116.out 1).trans rfl⟩ (fun hHeld => ?_)
               clear hK K
               refine nS_ (some 23) ?_
               exact norm_ (by simp only [putAll, Act.put, List.setIfInBounds_toArray, List.set_cons_zero, List.set_cons_succ] <;> rfl) (hJ4_9 (v125, gb130) _ ⟨hHeld, (rT_ HO126), (bT_ BK116), (bT_ BK117), (bT_ BK130), GW130.out, GE130.out, NB116_130.out, NB130_116.out, NB117_130.out, NB130_117.out, (by repeat (first | (with_reducible first | exact HB.out | apply below_alloc | apply pw_below_drewN | apply below_drew1 | refine below_set ?_ GE116.out | refine below_set ?_ GE117.out | refine below_set ?_ GE130.out) | exact HB.out))⟩)
            ·skip
             rintro v125 w12 ⟨hS_, h0_, h1_, h2_, h3_⟩
             try dsimp only at h0_ h1_ h2_ h3_
             have HO126 := Aside0.mk h0_; replace BK116 := Aside0.mk h1_; replace BK117 := Aside0.mk h2_; replace HB := Aside0.mk h3_; clear h0_ h1_ h2_ h3_
             have hHeld : w12.cell? ⟨gb116, 0, none⟩ = some (.slice A0_0 l0_0.length c0_0) ∧ w12.cell? ⟨gb116, 1, none⟩ = some (.slice A0_1 l0_1.length c0_1) := hS_
             refine norm_ (a' := ?_) ?_ ?_
             rotate_left
             ·simp only [putAll, Act.put, List.setIfInBounds_toArray, List.set_cons_zero, List.set_cons_succ]
              rfl
             refine two_ (i := 0) (j := 9) (Ni := some 19) (Nj := some 6) #[true, true, true, false, true, true, true, false, false, false, false] #[false, true, true, false, true, true, true, false, false, true, false] rfl rfl rfl rfl (two_of HT_.out (by kernel_rfl)) (by decide) (by decide) (fun K hK => ?_) (fun K hK => ?_)
             ·skip
              refine Kd.R_lit_step (Kd.int .i64) _ 2 ?hg (N := 19) ?hd (xs := ([] : List Int)) (inner := []) (ok := fun _ => True) (okp := fun _ => True) ?hr ?hp (fun _ hk => hk) trivial (Below.refl _ _) (Nat.le_refl _) (by simp) ?_; (case hd => rfl); (case hg => rfl); (case hr => first | (go_simp; done) | (go_simp; rfl)); (case hp => exact (Reps.none _ _))
              intro v119 w13 ho14 hb hg_ hnew_
              clear hg_ hnew_
              (first | rw [← Ny118.out] at ho14 | (simp only [Int.reduceToNat] at ho14; rw [← Ny118.out] at ho14))
              have HO120 := rL_ (rN_ ho14 HO126) HB
              replace HO126 := rE_ HO126 ho14 hb; replace BK116 := bB_ BK116 hb; replace BK117 := bB_ BK117 hb; replace HB := bS_ HB hb; clear hb ho14
              refine hK.out _ _ ⟨(blk_cell BK116.out 0).trans rfl, (blk_cell BK116.out 1).trans rfl⟩ (fun hHeld => ?_)
              clear hK K
              refine nS_ (some 19) ?_
              exact norm_ (by simp only [putAll, Act.put, List.setIfInBounds_toArray, List.set_cons_zero, List.set_cons_succ] <;> rfl) (hJ0_4 (v119, v125) _ ⟨hHeld, (rM_ HO120), (rM_ HO126), (bT_ BK116), (bT_ BK117), (by repeat (first | (with_reducible first | exact HB.out | apply below_alloc | apply pw_below_drewN | apply below_drew1 | refine below_set ?_ GE116.out | refine below_set ?_ GE117.out) | exact HB.out))⟩)
             ·skip
              refine box_step ?hg (N := 6) ?hd (cs := #[.slice none 0 0, .slice none 0 0]) (t := 26) ?hr ?_; (case hd => rfl); (case hg => rfl); (case hr => first | (go_simp; done) | (go_simp; rfl))
              intro gb130 hg w13 hbox hb
              replace HO126 := rB_ HO126 hb
              have BK130 := Aside0.mk (hbox)
              have GW130 := gE_ HB hg; have GE130 := gE_ HB hg; replace HB := bS_ HB hb; have NB116_130 := nL_ BK116 hg; have NB130_116 := nG_ BK116 hg; replace BK116 := bB_ BK116 hb; have NB117_130 := nL_ BK117 hg; have NB130_117 := nG_ BK117 hg; replace BK117 := bB_ BK117 hb; clear hb hbox hg
              refine hK.out _ _ ⟨(blk_cell BK116.out 0).trans rfl, (blk_cell BK116.out 1).trans rfl⟩ (fun hHeld => ?_)
              clear hK K
              refine nS_ (some 6) ?_
              exact norm_ (by simp only [putAll, Act.put, List.setIfInBounds_toArray, List.set_cons_zero, List.set_cons_succ] <;> rfl) (hJ4_9 (v125, gb130) _ ⟨hHeld, (rT_ HO126), (bT_ BK116), (bT_ BK117), (bT_ BK130), GW130.out, GE130.out, NB116_130.out, NB130_116.out, NB117_130.out, NB130_117.out, (by repeat (first | (with_reducible first | exact HB.out | apply below_alloc | apply pw_below_drewN | apply below_drew1 | refine below_set ?_ GE116.out | refine below_set ?_ GE117.out | refine below_set ?_ GE130.out) | exact HB.out))⟩)
           ·skip
            rintro v119 w12 ⟨hS_, h0_, h1_, h2_, h3_⟩
            try dsimp only at h0_ h1_ h2_ h3_
            have HO120 := Aside0.mk h0_; replace BK116 := Aside0.mk h1_; replace BK117 := Aside0.mk h2_; replace HB := Aside0.mk h3_; clear h0_ h1_ h2_ h3_
            have hHeld : w12.cell? ⟨gb116, 0, none⟩ = some (.slice A0_0 l0_0.length c0_0) ∧ w12.cell? ⟨gb116, 1, none⟩ = some (.slice A0_1 l0_1.length c0_1) := hS_
            refine norm_ (a' := ?_) ?_ ?_
            rotate_left
            ·simp only [putAll, Act.put, List.setIfInBounds_toArray, List.set_cons_zero, List.set_cons_succ]
             rfl
            refine three_ (i := 3) (j := 4) (k := 9) (Ni := some 22) (Nj := some 23) (Nk := some 6) #[true, true, true, true, false, true, true, false, false, false, false] #[true, true, true, false, true, true, true, false, false, false, false] #[true, true, true, false, false, true, true, false, false, true, false] rfl rfl rfl rfl rfl rfl (three_of HT_.out (by kernel_rfl)) (by decide) (by decide) (by decide) (fun K hK => ?_) (fun K hK => ?_) (fun K hK => ?_)
            ·skip
             refine Kd.R_append_rows_step (Kd.int .i64) (w0 := w) w.heap.size (by rfl) (.tmp 19) (.tmp 21) 22 2 (.int .i64 0) 8 rfl Try.underlying22 info2 rfl (by decide) (by omega) v119 y118 l0_0 _ _ _ (fun _ => True) (fun _ => False) rfl rfl ?aO ?aR (fun _ _ h => h) (fun _ h => h.elim) ?aF ?aB ?aS ?aL ?_
             (case aR => repeat (first | exact (Kd.C_below HR0_0.out HB.out) | (with_reducible refine Kd.C_alloc ?_ _) | (with_reducible refine Kd.C_drewN ?_ _) | (with_reducible refine Kd.C_drew ?_)))
             (case aB => exact (by repeat (first | (with_reducible first | exact HB.out | apply below_alloc | apply pw_below_drewN | apply below_drew1 | refine below_set ?_ GE116.out | refine below_set ?_ GE117.out) | exact HB.out)))
             (case aF => exact (fun _ _ => trivial))
             (case aO => exact (rT_ HO120))
             (case aS => exact (below_size (by repeat (first | (with_reducible first | exact HB.out | apply below_alloc | apply pw_below_drewN | apply below_drew1 | refine below_set ?_ GE116.out | refine below_set ?_ GE117.out) | exact HB.out))))
             (case aL => have := LMc3.out; omega)
             intro v122 w13 ho hb hg hat
             rw [← Ny121.out] at ho
             replace BK116 := Aside0.mk (blk_grown (g := gb116) (o := .cells #[.slice A0_0 l0_0.length c0_0, .slice A0_1 l0_1.length c0_1] 26 (0, 0)) (bT_ BK116) hg (Kd.R_ne HO120.out BK116.out (by decide)))
             replace BK117 := Aside0.mk (blk_grown (g := gb117) (o := .cells #[.slice none 0 0, .slice none 0 0] 26 (0, 0)) (bT_ BK117) hg (Kd.R_ne HO120.out BK117.out (by decide)))
             replace HB := Aside0.mk (hb)
             have HO123 := Aside0.mk (ho)
             clear HO120 ho hb hg hat
             refine hK.out _ _ ⟨(blk_cell BK116.out 0).trans rfl, (blk_cell BK116.out 1).trans rfl⟩ (fun hHeld => ?_)
             clear hK K
             refine nS_ (some 22) ?_
             exact norm_ (by simp only [putAll, Act.put, List.setIfInBounds_toArray, List.set_cons_zero, List.set_cons_succ] <;> rfl) (hJ0_3 (v119, v122) _ ⟨hHeld, (rT_ HO123), (bT_ BK116), (bT_ BK117), (by repeat (first | (with_reducible first | exact HB.out | apply below_alloc | apply pw_below_drewN | apply below_drew1 | refine below_set ?_ GE116.out | refine below_set ?_ GE117.out) | exact HB.out))⟩)
            ·skip
             refine Kd.R_lit_step (Kd.int .i64) _ 2 ?hg (N := 23) ?hd (xs := ([] : List Int)) (inner := []) (ok := fun _ => True) (okp := fun _ => True) ?hr ?hp (fun _ hk => hk) trivial (Below.refl _ _) (Nat.le_refl _) (by simp) ?_; (case hd => rfl); (case hg => rfl); (case hr => first | (go_simp; done) | (go_simp; rfl)); (case hp => exact (Reps.none _ _))
             intro v125 w13 ho14 hb hg_ hnew_
             clear hg_ hnew_
             (first | rw [← Ny124.out] at ho14 | (simp only [Int.reduceToNat] at ho14; rw [← Ny124.out] at ho14))
             have HO126 := rL_ (rN_ ho14 HO120) HB
             replace HO120 := rE_ HO120 ho14 hb; replace BK116 := bB_ BK116 hb; replace BK117 := bB_ BK117 hb; replace HB := bS_ HB hb; clear hb ho14
             refine hK.out _ _ ⟨(blk_cell BK116.out 0).trans rfl, (blk_cell BK116.out 1).trans rfl⟩ (fun hHeld => ?_)
             clear hK K
             refine nS_ (some 23) ?_
             exact norm_ (by simp only [putAll, Act.put, List.setIfInBounds_toArray, List.set_cons_zero, List.set_cons_succ] <;> rfl) (hJ0_4 (v119, v125) _ ⟨hHeld, (rM_ HO120), (rM_ HO126), (bT_ BK116), (bT_ BK117), (by repeat (first | (with_reducible first | exact HB.out | apply below_alloc | apply pw_below_drewN | apply below_drew1 | refine below_set ?_ GE116.out | refine below_set ?_ GE117.out) | exact HB.out))⟩)
            ·skip
             refine box_step ?hg (N := 6) ?hd (cs := #[.slice none 0 0, .slice none 0 0]) (t := 26) ?hr ?_; (case hd => rfl); (case hg => rfl); (case hr => first | (go_simp; done) | (go_simp; rfl))
             intro gb130 hg w13 hbox hb
             replace HO120 := rB_ HO120 hb
             have BK130 := Aside0.mk (hbox)
             have GW130 := gE_ HB hg; have GE130 := gE_ HB hg; replace HB := bS_ HB hb; have NB116_130 := nL_ BK116 hg; have NB130_116 := nG_ BK116 hg; replace BK116 := bB_ BK116 hb; have NB117_130 := nL_ BK117 hg; have NB130_117 := nG_ BK117 hg; replace BK117 := bB_ BK117 hb; clear hb hbox hg
             refine hK.out _ _ ⟨(blk_cell BK116.out 0).trans rfl, (blk_cell BK116.out 1).trans rfl⟩ (fun hHeld => ?_)
             clear hK K
             refine nS_ (some 6) ?_
             exact norm_ (by simp only [putAll, Act.put, List.setIfInBounds_toArray, List.set_cons_zero, List.set_cons_succ] <;> rfl) (hJ0_9 (v119, gb130) _ ⟨hHeld, (rT_ HO120), (bT_ BK116), (bT_ BK117), (bT_ BK130), GW130.out, GE130.out, NB116_130.out, NB130_116.out, NB117_130.out, NB130_117.out, (by repeat (first | (with_reducible first | exact HB.out | apply below_alloc | apply pw_below_drewN | apply below_drew1 | refine below_set ?_ GE116.out | refine below_set ?_ GE117.out | refine below_set ?_ GE130.out) | exact HB.out))⟩)
          ·skip
           rintro ⟨v125, gb130⟩ w13 ⟨hS_, h0_, h1_, h2_, h3_, h4_, h5_, h6_, h7_, h8_, h9_, h10_⟩
           try dsimp only at h0_ h1_ h2_ h3_ h4_ h5_ h6_ h7_ h8_ h9_ h10_
           have HO126 := Aside0.mk h0_; replace BK116 := Aside0.mk h1_; replace BK117 := Aside0.mk h2_; have BK130 := Aside0.mk h3_; have GW130 := Aside0.mk h4_; have GE130 := Aside0.mk h5_; have NB116_130 := Aside0.mk h6_; have NB130_116 := Aside0.mk h7_; have NB117_130 := Aside0.mk h8_; have NB130_117 := Aside0.mk h9_; replace HB := Aside0.mk h10_; clear h0_ h1_ h2_ h3_ h4_ h5_ h6_ h7_ h8_ h9_ h10_
           have hHeld : w13.cell? ⟨gb116, 0, none⟩ = some (.slice A0_0 l0_0.length c0_0) ∧ w13.cell? ⟨gb116, 1, none⟩ = some (.slice A0_1 l0_1.length c0_1) := hS_
           refine norm_ (a' := ?_) ?_ ?_
           rotate_left
           ·simp only [putAll, Act.put, List.setIfInBounds_toArray, List.set_cons_zero, List.set_cons_succ]
            rfl
           refine one_ (i := 0) (N := some 19) #[true, true, true, false, true, true, true, false, false, true, false] rfl rfl (one_of HT_.out (by kernel_rfl)) (by decide) (fun K hK => ?_)
           refine Kd.R_lit_step (Kd.int .i64) _ 2 ?hg (N := 19) ?hd (xs := ([] : List Int)) (inner := []) (ok := fun _ => True) (okp := fun _ => True) ?hr ?hp (fun _ hk => hk) trivial (Below.refl _ _) (Nat.le_refl _) (by simp) ?_; (case hd => rfl); (case hg => rfl); (case hr => first | (go_simp; done) | (go_simp; rfl)); (case hp => exact (Reps.none _ _))
           intro v119 w14 ho15 hb hg_ hnew_
           clear hg_ hnew_
           (first | rw [← Ny118.out] at ho15 | (simp only [Int.reduceToNat] at ho15; rw [← Ny118.out] at ho15))
           have HO120 := rL_ (rN_ ho15 HO126) HB
           replace HO126 := rE_ HO126 ho15 hb; replace BK116 := bB_ BK116 hb; replace BK117 := bB_ BK117 hb; replace BK130 := bB_ BK130 hb; replace HB := bS_ HB hb; clear hb ho15
           refine hK.out _ _ ⟨(blk_cell BK116.out 0).trans rfl, (blk_cell BK116.out 1).trans rfl⟩ (fun hHeld => ?_)
           clear hK K
           refine nS_ (some 19) ?_
           exact norm_ (by simp only [putAll, Act.put, List.setIfInBounds_toArray, List.set_cons_zero, List.set_cons_succ] <;> rfl) (hJ0_4_9 (v119, v125, gb130) _ ⟨hHeld, (rM_ HO120), (rM_ HO126), (bT_ BK116), (bT_ BK117), (bT_ BK130), GW130.out, GE130.out, NB116_130.out, NB130_116.out, NB117_130.out, NB130_117.out, (by repeat (first | (with_reducible first | exact HB.out | apply below_alloc | apply pw_below_drewN | apply below_drew1 | refine below_set ?_ GE116.out | refine below_set ?_ GE117.out | refine below_set ?_ GE130.out) | exact HB.out))⟩)
         ·skip
          rintro ⟨v119, gb130⟩ w13 ⟨hS_, h0_, h1_, h2_, h3_, h4_, h5_, h6_, h7_, h8_, h9_, h10_⟩
          try dsimp only at h0_ h1_ h2_ h3_ h4_ h5_ h6_ h7_ h8_ h9_ h10_
          have HO120 := Aside0.mk h0_; replace BK116 := Aside0.mk h1_; replace BK117 := Aside0.mk h2_; have BK130 := Aside0.mk h3_; have GW130 := Aside0.mk h4_; have GE130 := Aside0.mk h5_; have NB116_130 := Aside0.mk h6_; have NB130_116 := Aside0.mk h7_; have NB117_130 := Aside0.mk h8_; have NB130_117 := Aside0.mk h9_; replace HB := Aside0.mk h10_; clear h0_ h1_ h2_ h3_ h4_ h5_ h6_ h7_ h8_ h9_ h10_
          have hHeld : w13.cell? ⟨gb116, 0, none⟩ = some (.slice A0_0 l0_0.length c0_0) ∧ w13.cell? ⟨gb116, 1, none⟩ = some (.slice A0_1 l0_1.length c0_1) := hS_
          refine norm_ (a' := ?_) ?_ ?_
          rotate_left
          ·simp only [putAll, Act.put, List.setIfInBounds_toArray, List.set_cons_zero, List.set_cons_succ]
           rfl
          refine two_ (i := 3) (j := 4) (Ni := some 22) (Nj := some 23) #[true, true, true, true, false, true, true, false, false, true, false] #[true, true, true, false, true, true, true, false, false, true, false] rfl rfl rfl rfl (two_of HT_.out (by kernel_rfl)) (by decide) (by decide) (fun K hK => ?_) (fun K hK => ?_)
          ·skip
           refine Kd.R_append_rows_step (Kd.int .i64) (w0 := w) w.heap.size (by rfl) (.tmp 19) (.tmp 21) 22 2 (.int .i64 0) 8 rfl Try.underlying22 info2 rfl (by decide) (by omega) v119 y118 l0_0 _ _ _ (fun _ => True) (fun _ => False) rfl rfl ?aO ?aR (fun _ _ h => h) (fun _ h => h.elim) ?aF ?aB ?aS ?aL ?_
           (case aR => repeat (first | exact (Kd.C_below HR0_0.out HB.out) | (with_reducible refine Kd.C_alloc ?_ _) | (with_reducible refine Kd.C_drewN ?_ _) | (with_reducible refine Kd.C_drew ?_)))
           (case aB => exact (by repeat (first | (with_reducible first | exact HB.out | apply below_alloc | apply pw_below_drewN | apply below_drew1 | refine below_set ?_ GE116.out | refine below_set ?_ GE117.out | refine below_set ?_ GE130.out) | exact HB.out)))
           (case aF => exact (fun _ _ => trivial))
           (case aO => exact (rT_ HO120))
           (case aS => exact (below_size (by repeat (first | (with_reducible first | exact HB.out | apply below_alloc | apply pw_below_drewN | apply below_drew1 | refine below_set ?_ GE116.out | refine below_set ?_ GE117.out | refine below_set ?_ GE130.out) | exact HB.out))))
           (case aL => have := LMc3.out; omega)
           intro v122 w14 ho hb hg hat
           rw [← Ny121.out] at ho
           replace BK116 := Aside0.mk (blk_grown (g := gb116) (o := .cells #[.slice A0_0 l0_0.length c0_0, .slice A0_1 l0_1.length c0_1] 26 (0, 0)) (bT_ BK116) hg (Kd.R_ne HO120.out BK116.out (by decide)))
           replace BK117 := Aside0.mk (blk_grown (g := gb117) (o := .cells #[.slice none 0 0, .slice none 0 0] 26 (0, 0)) (bT_ BK117) hg (Kd.R_ne HO120.out BK117.out (by decide)))
           replace BK130 := Aside0.mk (blk_grown (g := gb130) (o := .cells #[.slice none 0 0, .slice none 0 0] 26 (0, 0)) (bT_ BK130) hg (Kd.R_ne HO120.out BK130.out (by decide)))
           replace HB := Aside0.mk (hb)
           have HO123 := Aside0.mk (ho)
           clear HO120 ho hb hg hat
           refine hK.out _ _ ⟨(blk_cell BK116.out 0).trans rfl, (blk_cell BK116.out 1).trans rfl⟩ (fun hHeld => ?_)
           clear hK K
           refine nS_ (some 22) ?_
           exact norm_ (by simp only [putAll, Act.put, List.setIfInBounds_toArray, List.set_cons_zero, List.set_cons_succ] <;> rfl) (hJ0_3_9 (v119, v122, gb130) _ ⟨hHeld, (rT_ HO123), (bT_ BK116), (bT_ BK117), (bT_ BK130), GW130.out, GE130.out, NB116_130.out, NB130_116.out, NB117_130.out, NB130_117.out, (by repeat (first | (with_reducible first | exact HB.out | apply below_alloc | apply pw_below_drewN | apply below_drew1 | refine below_set ?_ GE116.out | refine below_set ?_ GE117.out | refine below_set ?_ GE130.out) | exact HB.out))⟩)
          ·skip
           refine Kd.R_lit_step (Kd.int .i64) _ 2 ?hg (N := 23) ?hd (xs := ([] : List Int)) (inner := []) (ok := fun _ => True) (okp := fun _ => True) ?hr ?hp (fun _ hk => hk) trivial (Below.refl _ _) (Nat.le_refl _) (by simp) ?_; (case hd => rfl); (case hg => rfl); (case hr => first | (go_simp; done) | (go_simp; rfl)); (case hp => exact (Reps.none _ _))
           intro v125 w14 ho15 hb hg_ hnew_
           clear hg_ hnew_
           (first | rw [← Ny124.out] at ho15 | (simp only [Int.reduceToNat] at ho15; rw [← Ny124.out] at ho15))
           have HO126 := rL_ (rN_ ho15 HO120) HB
           replace HO120 := rE_ HO120 ho15 hb; replace BK116 := bB_ BK116 hb; replace BK117 := bB_ BK117 hb; replace BK130 := bB_ BK130 hb; replace HB := bS_ HB hb; clear hb ho15
           refine hK.out _ _ ⟨(blk_cell BK116.out 0).trans rfl, (blk_cell BK116.out 1).trans rfl⟩ (fun hHeld => ?_)
           clear hK K
           refine nS_ (some 23) ?_
           exact norm_ (by simp only [putAll, Act.put, List.setIfInBounds_toArray, List.set_cons_zero, List.set_cons_succ] <;> rfl) (hJ0_4_9 (v119, v125, gb130) _ ⟨hHeld, (rM_ HO120), (rM_ HO126), (bT_ BK116), (bT_ BK117), (bT_ BK130), GW130.out, GE130.out, NB116_130.out, NB130_116.out, NB117_130.out, NB130_117.out, (by repeat (first | (with_reducible first | exact HB.out | apply below_alloc | apply pw_below_drewN | apply below_drew1 | refine below_set ?_ GE116.out | refine below_set ?_ GE117.out | refine below_set ?_ GE130.out) | exact HB.out))⟩)
        ·skip
         rintro ⟨v119, v125⟩ w14 ⟨hS_, h0_, h1_, h2_, h3_, h4_⟩
         try dsimp only at h0_ h1_ h2_ h3_ h4_
         have HO120 := Aside0.mk h0_; have HO126 := Aside0.mk h1_; replace BK116 := Aside0.mk h2_; replace BK117 := Aside0.mk h3_; replace HB := Aside0.mk h4_; clear h0_ h1_ h2_ h3_ h4_
         have hHeld : w14.cell? ⟨gb116, 0, none⟩ = some (.slice A0_0 l0_0.length c0_0) ∧ w14.cell? ⟨gb116, 1, none⟩ = some (.slice A0_1 l0_1.length c0_1) := hS_
         refine norm_ (a' := ?_) ?_ ?_
         rotate_left
         ·simp only [putAll, Act.put, List.setIfInBounds_toArray, List.set_cons_zero, List.set_cons_succ]
          rfl
         refine two_ (i := 3) (j := 9) (Ni := some 22) (Nj := some 6) #[true, true, true, true, true, true, true, false, false, false, false] #[true, true, true, false, true, true, true, false, false, true, false] rfl rfl rfl rfl (two_of HT_.out (by kernel_rfl)) (by decide) (by decide) (fun K hK => ?_) (fun K hK => ?_)
         ·skip
          refine Kd.R_append_rows_step (Kd.int .i64) (w0 := w) w.heap.size (by rfl) (.tmp 19) (.tmp 21) 22 2 (.int .i64 0) 8 rfl Try.underlying22 info2 rfl (by decide) (by omega) v119 y118 l0_0 _ _ _ (fun k_ => some k_ ≠ (v125 : Value).ownBlock) (fun _ => False) rfl rfl ?aO ?aR (fun _ _ h => h) (fun _ h => h.elim) ?aF ?aB ?aS ?aL ?_
          (case aR => repeat (first | exact (Kd.C_below HR0_0.out HB.out) | (with_reducible refine Kd.C_alloc ?_ _) | (with_reducible refine Kd.C_drewN ?_ _) | (with_reducible refine Kd.C_drew ?_)))
          (case aB => exact (by repeat (first | (with_reducible first | exact HB.out | apply below_alloc | apply pw_below_drewN | apply below_drew1 | refine below_set ?_ GE116.out | refine below_set ?_ GE117.out) | exact HB.out)))
          (case aF => exact (fun k_ hk => Kd.fresh' (rLt_ HO126) k_ hk))
          (case aO => exact (rT_ HO120))
          (case aS => exact (below_size (by repeat (first | (with_reducible first | exact HB.out | apply below_alloc | apply pw_below_drewN | apply below_drew1 | refine below_set ?_ GE116.out | refine below_set ?_ GE117.out) | exact HB.out))))
          (case aL => have := LMc3.out; omega)
          intro v122 w15 ho hb hg hat
          rw [← Ny121.out] at ho
          replace BK116 := Aside0.mk (blk_grown (g := gb116) (o := .cells #[.slice A0_0 l0_0.length c0_0, .slice A0_1 l0_1.length c0_1] 26 (0, 0)) (bT_ BK116) hg (Kd.R_ne HO120.out BK116.out (by decide)))
          replace BK117 := Aside0.mk (blk_grown (g := gb117) (o := .cells #[.slice none 0 0, .slice none 0 0] 26 (0, 0)) (bT_ BK117) hg (Kd.R_ne HO120.out BK117.out (by decide)))
          replace HO126 := Aside0.mk (Kd.R_after (ok := (fun _ => True)) (rM_ HO126 (fun _ hk => ⟨trivial, hk⟩)) hg hat)
          replace HB := Aside0.mk (hb)
          have HO123 := Aside0.mk (ho)
          clear HO120 ho hb hg hat
          refine hK.out _ _ ⟨(blk_cell BK116.out 0).trans rfl, (blk_cell BK116.out 1).trans rfl⟩ (fun hHeld => ?_)
          clear hK K
          refine nS_ (some 22) ?_
          exact norm_ (by simp only [putAll, Act.put, List.setIfInBounds_toArray, List.set_cons_zero, List.set_cons_succ] <;> rfl) (hJ0_3_4 (v119, v122, v125) _ ⟨hHeld, (rT_ HO123), (rM_ HO126), (bT_ BK116), (bT_ BK117), (by repeat (first | (with_reducible first | exact HB.out | apply below_alloc | apply pw_below_drewN | apply below_drew1 | refine below_set ?_ GE116.out | refine below_set ?_ GE117.out) | exact HB.out))⟩)
         ·skip
          refine box_step ?hg (N := 6) ?hd (cs := #[.slice none 0 0, .slice none 0 0]) (t := 26) ?hr ?_; (case hd => rfl); (case hg => rfl); (case hr => first | (go_simp; done) | (go_simp; rfl))
          intro gb130 hg w15 hbox hb
          replace HO120 := rB_ HO120 hb; replace HO126 := rB_ HO126 hb
          have BK130 := Aside0.mk (hbox)
          have GW130 := gE_ HB hg; have GE130 := gE_ HB hg; replace HB := bS_ HB hb; have NB116_130 := nL_ BK116 hg; have NB130_116 := nG_ BK116 hg; replace BK116 := bB_ BK116 hb; have NB117_130 := nL_ BK117 hg; have NB130_117 := nG_ BK117 hg; replace BK117 := bB_ BK117 hb; clear hb hbox hg
          refine hK.out _ _ ⟨(blk_cell BK116.out 0).trans rfl, (blk_cell BK116.out 1).trans rfl⟩ (fun hHeld => ?_)
          clear hK K
          refine nS_ (some 6) ?_
          exact norm_ (by simp only [putAll, Act.put, List.setIfInBounds_toArray, List.set_cons_zero, List.set_cons_succ] <;> rfl) (hJ0_4_9 (v119, v125, gb130) _ ⟨hHeld, (rT_ HO120), (rT_ HO126), (bT_ BK116), (bT_ BK117), (bT_ BK130), GW130.out, GE130.out, NB116_130.out, NB130_116.out, NB117_130.out, NB130_117.out, (by repeat (first | (with_reducible first | exact HB.out | apply below_alloc | apply pw_below_drewN | apply below_drew1 | refine below_set ?_ GE116.out | refine below_set ?_ GE117.out | refine below_set ?_ GE130.out) | exact HB.out))⟩)
       ·skip
        rintro ⟨v119, v122⟩ w13 ⟨hS_, h0_, h1_, h2_, h3_⟩
        try dsimp only at h0_ h1_ h2_ h3_
        have HO123 := Aside0.mk h0_; replace BK116 := Aside0.mk h1_; replace BK117 := Aside0.mk h2_; replace HB := Aside0.mk h3_; clear h0_ h1_ h2_ h3_
        have hHeld : w13.cell? ⟨gb116, 0, none⟩ = some (.slice A0_0 l0_0.length c0_0) ∧ w13.cell? ⟨gb116, 1, none⟩ = some (.slice A0_1 l0_1.length c0_1) := hS_
        refine norm_ (a' := ?_) ?_ ?_
        rotate_left
        ·simp only [putAll, Act.put, List.setIfInBounds_toArray, List.set_cons_zero, List.set_cons_succ]
         rfl
        refine two_ (i := 4) (j := 9) (Ni := some 23) (Nj := some 6) #[true, true, true, true, true, true, true, false, false, false, false] #[true, true, true, true, false, true, true, false, false, true, false] rfl rfl rfl rfl (two_of HT_.out (by kernel_rfl)) (by decide) (by decide) (fun K hK => ?_) (fun K hK => ?_)
        ·skip
         refine Kd.R_lit_step (Kd.int .i64) _ 2 ?hg (N := 23) ?hd (xs := ([] : List Int)) (inner := []) (ok := fun _ => True) (okp := fun _ => True) ?hr ?hp (fun _ hk => hk) trivial (Below.refl _ _) (Nat.le_refl _) (by simp) ?_; (case hd => rfl); (case hg => rfl); (case hr => first | (go_simp; done) | (go_simp; rfl)); (case hp => exact (Reps.none _ _))
         intro v125 w14 ho15 hb hg_ hnew_
         clear hg_ hnew_
         (first | rw [← Ny124.out] at ho15 | (simp only [Int.reduceToNat] at ho15; rw [← Ny124.out] at ho15))
         have HO126 := rL_ (rN_ ho15 HO123) HB
         replace HO123 := rE_ HO123 ho15 hb; replace BK116 := bB_ BK116 hb; replace BK117 := bB_ BK117 hb; replace HB := bS_ HB hb; clear hb ho15
         refine hK.out _ _ ⟨(blk_cell BK116.out 0).trans rfl, (blk_cell BK116.out 1).trans rfl⟩ (fun hHeld => ?_)
         clear hK K
         refine nS_ (some 23) ?_
         exact norm_ (by simp only [putAll, Act.put, List.setIfInBounds_toArray, List.set_cons_zero, List.set_cons_succ] <;> rfl) (hJ0_3_4 (v119, v122, v125) _ ⟨hHeld, (rM_ HO123), (rM_ HO126), (bT_ BK116), (bT_ BK117), (by repeat (first | (with_reducible first | exact HB.out | apply below_alloc | apply pw_below_drewN | apply below_drew1 | refine below_set ?_ GE116.out | refine below_set ?_ GE117.out) | exact HB.out))⟩)
        ·skip
         refine box_step ?hg (N := 6) ?hd (cs := #[.slice none 0 0, .slice none 0 0]) (t := 26) ?hr ?_; (case hd => rfl); (case hg => rfl); (case hr => first | (go_simp; done) | (go_simp; rfl))
         intro gb130 hg w14 hbox hb
         replace HO123 := rB_ HO123 hb
         have BK130 := Aside0.mk (hbox)
         have GW130 := gE_ HB hg; have GE130 := gE_ HB hg; replace HB := bS_ HB hb; have NB116_130 := nL_ BK116 hg; have NB130_116 := nG_ BK116 hg; replace BK116 := bB_ BK116 hb; have NB117_130 := nL_ BK117 hg; have NB130_117 := nG_ BK117 hg; replace BK117 := bB_ BK117 hb; clear hb hbox hg
         refine hK.out _ _ ⟨(blk_cell BK116.out 0).trans rfl, (blk_cell BK116.out 1).trans rfl⟩ (fun hHeld => ?_)
         clear hK K
         refine nS_ (some 6) ?_
         exact norm_ (by simp only [putAll, Act.put, List.setIfInBounds_toArray, List.set_cons_zero, List.set_cons_succ] <;> rfl) (hJ0_3_9 (v119, v122, gb130) _ ⟨hHeld, (rT_ HO123), (bT_ BK116), (bT_ BK117), (bT_ BK130), GW130.out, GE130.out, NB116_130.out, NB130_116.out, NB117_130.out, NB130_117.out, (by repeat (first | (with_reducible first | exact HB.out | apply below_alloc | apply pw_below_drewN | apply below_drew1 | refine below_set ?_ GE116.out | refine below_set ?_ GE117.out | refine below_set ?_ GE130.out) | exact HB.out))⟩)
      ·skip
       rintro ⟨v119, v125, gb130⟩ w15 ⟨hS_, h0_, h1_, h2_, h3_, h4_, h5_, h6_, h7_, h8_, h9_, h10_, h11_⟩
       try dsimp only at h0_ h1_ h2_ h3_ h4_ h5_ h6_ h7_ h8_ h9_ h10_ h11_
       have HO120 := Aside0.mk h0_; have HO126 := Aside0.mk h1_; replace BK116 := Aside0.mk h2_; replace BK117 := Aside0.mk h3_; have BK130 := Aside0.mk h4_; have GW130 := Aside0.mk h5_; have GE130 := Aside0.mk h6_; have NB116_130 := Aside0.mk h7_; have NB130_116 := Aside0.mk h8_; have NB117_130 := Aside0.mk h9_; have NB130_117 := Aside0.mk h10_; replace HB := Aside0.mk h11_; clear h0_ h1_ h2_ h3_ h4_ h5_ h6_ h7_ h8_ h9_ h10_ h11_
       have hHeld : w15.cell? ⟨gb116, 0, none⟩ = some (.slice A0_0 l0_0.length c0_0) ∧ w15.cell? ⟨gb116, 1, none⟩ = some (.slice A0_1 l0_1.length c0_1) := hS_
       refine norm_ (a' := ?_) ?_ ?_
       rotate_left
       ·simp only [putAll, Act.put, List.setIfInBounds_toArray, List.set_cons_zero, List.set_cons_succ]
        rfl
       refine one_ (i := 3) (N := some 22) #[true, true, true, true, true, true, true, false, false, true, false] rfl rfl (one_of HT_.out (by kernel_rfl)) (by decide) (fun K hK => ?_)
       refine Kd.R_append_rows_step (Kd.int .i64) (w0 := w) w.heap.size (by rfl) (.tmp 19) (.tmp 21) 22 2 (.int .i64 0) 8 rfl Try.underlying22 info2 rfl (by decide) (by omega) v119 y118 l0_0 _ _ _ (fun k_ => some k_ ≠ (v125 : Value).ownBlock) (fun _ => False) rfl rfl ?aO ?aR (fun _ _ h => h) (fun _ h => h.elim) ?aF ?aB ?aS ?aL ?_
       (case aR => repeat (first | exact (Kd.C_below HR0_0.out HB.out) | (with_reducible refine Kd.C_alloc ?_ _) | (with_reducible refine Kd.C_drewN ?_ _) | (with_reducible refine Kd.C_drew ?_)))
       (case aB => exact (by repeat (first | (with_reducible first | exact HB.out | apply below_alloc | apply pw_below_drewN | apply below_drew1 | refine below_set ?_ GE116.out | refine below_set ?_ GE117.out | refine below_set ?_ GE130.out) | exact HB.out)))
       (case aF => exact (fun k_ hk => Kd.fresh' (rLt_ HO126) k_ hk))
       (case aO => exact (rT_ HO120))
       (case aS => exact (below_size (by repeat (first | (with_reducible first | exact HB.out | apply below_alloc | apply pw_below_drewN | apply below_drew1 | refine below_set ?_ GE116.out | refine below_set ?_ GE117.out | refine below_set ?_ GE130.out) | exact HB.out))))
       (case aL => have := LMc3.out; omega)
       intro v122 w16 ho hb hg hat
       rw [← Ny121.out] at ho
       replace BK116 := Aside0.mk (blk_grown (g := gb116) (o := .cells #[.slice A0_0 l0_0.length c0_0, .slice A0_1 l0_1.length c0_1] 26 (0, 0)) (bT_ BK116) hg (Kd.R_ne HO120.out BK116.out (by decide)))
       replace BK117 := Aside0.mk (blk_grown (g := gb117) (o := .cells #[.slice none 0 0, .slice none 0 0] 26 (0, 0)) (bT_ BK117) hg (Kd.R_ne HO120.out BK117.out (by decide)))
       replace HO126 := Aside0.mk (Kd.R_after (ok := (fun _ => True)) (rM_ HO126 (fun _ hk => ⟨trivial, hk⟩)) hg hat)
       replace BK130 := Aside0.mk (blk_grown (g := gb130) (o := .cells #[.slice none 0 0, .slice none 0 0] 26 (0, 0)) (bT_ BK130) hg (Kd.R_ne HO120.out BK130.out (by decide)))
       replace HB := Aside0.mk (hb)
       have HO123 := Aside0.mk (ho)
       clear HO120 ho hb hg hat
       refine hK.out _ _ ⟨(blk_cell BK116.out 0).trans rfl, (blk_cell BK116.out 1).trans rfl⟩ (fun hHeld => ?_)
       clear hK K
       refine nS_ (some 22) ?_
       exact norm_ (by simp only [putAll, Act.put, List.setIfInBounds_toArray, List.set_cons_zero, List.set_cons_succ] <;> rfl) (hJ0_3_4_9 (v119, v122, v125, gb130) _ ⟨hHeld, (rT_ HO123), (rM_ HO126), (bT_ BK116), (bT_ BK117), (bT_ BK130), GW130.out, GE130.out, NB116_130.out, NB130_116.out, NB117_130.out, NB130_117.out, (by repeat (first | (with_reducible first | exact HB.out | apply below_alloc | apply pw_below_drewN | apply below_drew1 | refine below_set ?_ GE116.out | refine below_set ?_ GE117.out | refine below_set ?_ GE130.out) | exact HB.out))⟩)
     ·skip
      rintro ⟨v119, v122, gb130⟩ w14 ⟨hS_, h0_, h1_, h2_, h3_, h4_, h5_, h6_, h7_, h8_, h9_, h10_⟩
      try dsimp only at h0_ h1_ h2_ h3_ h4_ h5_ h6_ h7_ h8_ h9_ h10_
      have HO123 := Aside0.mk h0_; replace BK116 := Aside0.mk h1_; replace BK117 := Aside0.mk h2_; have BK130 := Aside0.mk h3_; have GW130 := Aside0.mk h4_; have GE130 := Aside0.mk h5_; have NB116_130 := Aside0.mk h6_; have NB130_116 := Aside0.mk h7_; have NB117_130 := Aside0.mk h8_; have NB130_117 := Aside0.mk h9_; replace HB := Aside0.mk h10_; clear h0_ h1_ h2_ h3_ h4_ h5_ h6_ h7_ h8_ h9_ h10_
      have hHeld : w14.cell? ⟨gb116, 0, none⟩ = some (.slice A0_0 l0_0.length c0_0) ∧ w14.cell? ⟨gb116, 1, none⟩ = some (.slice A0_1 l0_1.length c0_1) := hS_
      refine norm_ (a' := ?_) ?_ ?_
      rotate_left
      ·simp only [putAll, Act.put, List.setIfInBounds_toArray, List.set_cons_zero, List.set_cons_succ]
       rfl
      refine one_ (i := 4) (N := some 23) #[true, true, true, true, true, true, true, false, false, true, false] rfl rfl (one_of HT_.out (by kernel_rfl)) (by decide) (fun K hK => ?_)
      refine Kd.R_lit_step (Kd.int .i64) _ 2 ?hg (N := 23) ?hd (xs := ([] : List Int)) (inner := []) (ok := fun _ => True) (okp := fun _ => True) ?hr ?hp (fun _ hk => hk) trivial (Below.refl _ _) (Nat.le_refl _) (by simp) ?_; (case hd => rfl); (case hg => rfl); (case hr => first | (go_simp; done) | (go_simp; rfl)); (case hp => exact (Reps.none _ _))
      intro v125 w15 ho16 hb hg_ hnew_
      clear hg_ hnew_
      (first | rw [← Ny124.out] at ho16 | (simp only [Int.reduceToNat] at ho16; rw [← Ny124.out] at ho16))
      have HO126 := rL_ (rN_ ho16 HO123) HB
      replace HO123 := rE_ HO123 ho16 hb; replace BK116 := bB_ BK116 hb; replace BK117 := bB_ BK117 hb; replace BK130 := bB_ BK130 hb; replace HB := bS_ HB hb; clear hb ho16
      refine hK.out _ _ ⟨(blk_cell BK116.out 0).trans rfl, (blk_cell BK116.out 1).trans rfl⟩ (fun hHeld => ?_)
      clear hK K
      refine nS_ (some 23) ?_
      exact norm_ (by simp only [putAll, Act.put, List.setIfInBounds_toArray, List.set_cons_zero, List.set_cons_succ] <;> rfl) (hJ0_3_4_9 (v119, v122, v125, gb130) _ ⟨hHeld, (rM_ HO123), (rM_ HO126), (bT_ BK116), (bT_ BK117), (bT_ BK130), GW130.out, GE130.out, NB116_130.out, NB130_116.out, NB117_130.out, NB130_117.out, (by repeat (first | (with_reducible first | exact HB.out | apply below_alloc | apply pw_below_drewN | apply below_drew1 | refine below_set ?_ GE116.out | refine below_set ?_ GE117.out | refine below_set ?_ GE130.out) | exact HB.out))⟩)
    ·skip
     rintro ⟨v119, v122, v125⟩ w15 ⟨hS_, h0_, h1_, h2_, h3_, h4_⟩
     try dsimp only at h0_ h1_ h2_ h3_ h4_
     have HO123 := Aside0.mk h0_; have HO126 := Aside0.mk h1_; replace BK116 := Aside0.mk h2_; replace BK117 := Aside0.mk h3_; replace HB := Aside0.mk h4_; clear h0_ h1_ h2_ h3_ h4_
     have hHeld : w15.cell? ⟨gb116, 0, none⟩ = some (.slice A0_0 l0_0.length c0_0) ∧ w15.cell? ⟨gb116, 1, none⟩ = some (.slice A0_1 l0_1.length c0_1) := hS_
     refine norm_ (a' := ?_) ?_ ?_
     rotate_left
     ·simp only [putAll, Act.put, List.setIfInBounds_toArray, List.set_cons_zero, List.set_cons_succ]
      rfl
     refine two_ (i := 7) (j := 9) (Ni := some 26) (Nj := some 6) #[true, true, true, true, true, true, true, true, false, false, false] #[true, true, true, true, true, true, true, false, false, true, false] rfl rfl rfl rfl (two_of HT_.out (by kernel_rfl)) (by decide) (by decide) (fun K hK => ?_) (fun K hK => ?_)
     ·skip
      refine Kd.R_append_rows_step (Kd.int .i64) (w0 := w) w.heap.size (by rfl) (.tmp 23) (.tmp 25) 22 2 (.int .i64 0) 8 rfl Try.underlying22 info2 rfl (by decide) (by omega) v125 y124 l0_1 _ _ _ (fun k_ => some k_ ≠ (v122 : Value).ownBlock) (fun _ => False) rfl rfl ?aO ?aR (fun _ _ h => h) (fun _ h => h.elim) ?aF ?aB ?aS ?aL ?_
      (case aR => repeat (first | exact (Kd.C_below HR0_1.out HB.out) | (with_reducible refine Kd.C_alloc ?_ _) | (with_reducible refine Kd.C_drewN ?_ _) | (with_reducible refine Kd.C_drew ?_)))
      (case aB => exact (by repeat (first | (with_reducible first | exact HB.out | apply below_alloc | apply pw_below_drewN | apply below_drew1 | refine below_set ?_ GE116.out | refine below_set ?_ GE117.out) | exact HB.out)))
      (case aF => exact (fun k_ hk => Kd.fresh' (rLt_ HO123) k_ hk))
      (case aO => exact (rT_ HO126))
      (case aS => exact (below_size (by repeat (first | (with_reducible first | exact HB.out | apply below_alloc | apply pw_below_drewN | apply below_drew1 | refine below_set ?_ GE116.out | refine below_set ?_ GE117.out) | exact HB.out))))
      (case aL => have := LMc4.out; omega)
      intro v128 w16 ho hb hg hat
      rw [← Ny127.out] at ho
      replace BK116 := Aside0.mk (blk_grown (g := gb116) (o := .cells #[.slice A0_0 l0_0.length c0_0, .slice A0_1 l0_1.length c0_1] 26 (0, 0)) (bT_ BK116) hg (Kd.R_ne HO126.out BK116.out (by decide)))
      replace BK117 := Aside0.mk (blk_grown (g := gb117) (o := .cells #[.slice none 0 0, .slice none 0 0] 26 (0, 0)) (bT_ BK117) hg (Kd.R_ne HO126.out BK117.out (by decide)))
      replace HO123 := Aside0.mk (Kd.R_after (ok := (fun _ => True)) (rM_ HO123 (fun _ hk => ⟨trivial, hk⟩)) hg hat)
      replace HB := Aside0.mk (hb)
      have HO129 := Aside0.mk (ho)
      clear HO126 ho hb hg hat
      obtain ⟨Ao17, co17, eo17⟩ := Kd.R_slice HO129.out
      (first | subst eo17 | (injection eo17 with f1_ f2_ f3_; have f4_ := f1_.symm; have f5_ := f3_.symm; clear f1_ f2_ f3_; subst f4_; subst f5_))
      obtain ⟨Ao18, co18, eo18⟩ := Kd.R_slice HO123.out
      (first | subst eo18 | (injection eo18 with f1_ f2_ f3_; have f4_ := f1_.symm; have f5_ := f3_.symm; clear f1_ f2_ f3_; subst f4_; subst f5_))
      refine hK.out _ _ ⟨(blk_cell BK116.out 0).trans rfl, (blk_cell BK116.out 1).trans rfl⟩ (fun hHeld => ?_)
      clear hK K
      refine nS_ (some 26) ?_
      refine pT_ 8 (some 27) #[true, true, true, true, true, true, true, true, true, false, false] HT_ ?_
      exact norm_ (by simp only [putAll, Act.put, List.setIfInBounds_toArray, List.set_cons_zero, List.set_cons_succ] <;> rfl) (hJ0_3_4_7 (v119, .slice Ao18 y121.length co18, v125, .slice Ao17 y127.length co17) _ ⟨hHeld, (rM_ HO123), (rT_ HO129), (bT_ BK116), (bT_ BK117), (by repeat (first | (with_reducible first | exact HB.out | apply below_alloc | apply pw_below_drewN | apply below_drew1 | refine below_set ?_ GE116.out | refine below_set ?_ GE117.out) | exact HB.out))⟩)
     ·skip
      refine box_step ?hg (N := 6) ?hd (cs := #[.slice none 0 0, .slice none 0 0]) (t := 26) ?hr ?_; (case hd => rfl); (case hg => rfl); (case hr => first | (go_simp; done) | (go_simp; rfl))
      intro gb130 hg w16 hbox hb
      replace HO123 := rB_ HO123 hb; replace HO126 := rB_ HO126 hb
      have BK130 := Aside0.mk (hbox)
      have GW130 := gE_ HB hg; have GE130 := gE_ HB hg; replace HB := bS_ HB hb; have NB116_130 := nL_ BK116 hg; have NB130_116 := nG_ BK116 hg; replace BK116 := bB_ BK116 hb; have NB117_130 := nL_ BK117 hg; have NB130_117 := nG_ BK117 hg; replace BK117 := bB_ BK117 hb; clear hb hbox hg
      refine hK.out _ _ ⟨(blk_cell BK116.out 0).trans rfl, (blk_cell BK116.out 1).trans rfl⟩ (fun hHeld => ?_)
      clear hK K
      refine nS_ (some 6) ?_
      exact norm_ (by simp only [putAll, Act.put, List.setIfInBounds_toArray, List.set_cons_zero, List.set_cons_succ] <;> rfl) (hJ0_3_4_9 (v119, v122, v125, gb130) _ ⟨hHeld, (rT_ HO123), (rT_ HO126), (bT_ BK116), (bT_ BK117), (bT_ BK130), GW130.out, GE130.out, NB116_130.out, NB130_116.out, NB117_130.out, NB130_117.out, (by repeat (first | (with_reducible first | exact HB.out | apply below_alloc | apply pw_below_drewN | apply below_drew1 | refine below_set ?_ GE116.out | refine below_set ?_ GE117.out | refine below_set ?_ GE130.out) | exact HB.out))⟩)
   ·skip
    rintro ⟨v119, v122, v125, gb130⟩ w16 ⟨hS_, h0_, h1_, h2_, h3_, h4_, h5_, h6_, h7_, h8_, h9_, h10_, h11_⟩
    try dsimp only at h0_ h1_ h2_ h3_ h4_ h5_ h6_ h7_ h8_ h9_ h10_ h11_
    have HO123 := Aside0.mk h0_; have HO126 := Aside0.mk h1_; replace BK116 := Aside0.mk h2_; replace BK117 := Aside0.mk h3_; have BK130 := Aside0.mk h4_; have GW130 := Aside0.mk h5_; have GE130 := Aside0.mk h6_; have NB116_130 := Aside0.mk h7_; have NB130_116 := Aside0.mk h8_; have NB117_130 := Aside0.mk h9_; have NB130_117 := Aside0.mk h10_; replace HB := Aside0.mk h11_; clear h0_ h1_ h2_ h3_ h4_ h5_ h6_ h7_ h8_ h9_ h10_ h11_
    have hHeld : w16.cell? ⟨gb116, 0, none⟩ = some (.slice A0_0 l0_0.length c0_0) ∧ w16.cell? ⟨gb116, 1, none⟩ = some (.slice A0_1 l0_1.length c0_1) := hS_
    refine norm_ (a' := ?_) ?_ ?_
    rotate_left
    ·simp only [putAll, Act.put, List.setIfInBounds_toArray, List.set_cons_zero, List.set_cons_succ]
     rfl
    refine one_ (i := 7) (N := some 26) #[true, true, true, true, true, true, true, true, false, true, false] rfl rfl (one_of HT_.out (by kernel_rfl)) (by decide) (fun K hK => ?_)
    refine Kd.R_append_rows_step (Kd.int .i64) (w0 := w) w.heap.size (by rfl) (.tmp 23) (.tmp 25) 22 2 (.int .i64 0) 8 rfl Try.underlying22 info2 rfl (by decide) (by omega) v125 y124 l0_1 _ _ _ (fun k_ => some k_ ≠ (v122 : Value).ownBlock) (fun _ => False) rfl rfl ?aO ?aR (fun _ _ h => h) (fun _ h => h.elim) ?aF ?aB ?aS ?aL ?_
    (case aR => repeat (first | exact (Kd.C_below HR0_1.out HB.out) | (with_reducible refine Kd.C_alloc ?_ _) | (with_reducible refine Kd.C_drewN ?_ _) | (with_reducible refine Kd.C_drew ?_)))
    (case aB => exact (by repeat (first | (with_reducible first | exact HB.out | apply below_alloc | apply pw_below_drewN | apply below_drew1 | refine below_set ?_ GE116.out | refine below_set ?_ GE117.out | refine below_set ?_ GE130.out) | exact HB.out)))
    (case aF => exact (fun k_ hk => Kd.fresh' (rLt_ HO123) k_ hk))
    (case aO => exact (rT_ HO126))
    (case aS => exact (below_size (by repeat (first | (with_reducible first | exact HB.out | apply below_alloc | apply pw_below_drewN | apply below_drew1 | refine below_set ?_ GE116.out | refine below_set ?_ GE117.out | refine below_set ?_ GE130.out) | exact HB.out))))
    (case aL => have := LMc4.out; omega)
    intro v128 w17 ho hb hg hat
    rw [← Ny127.out] at ho
    replace BK116 := Aside0.mk (blk_grown (g := gb116) (o := .cells #[.slice A0_0 l0_0.length c0_0, .slice A0_1 l0_1.length c0_1] 26 (0, 0)) (bT_ BK116) hg (Kd.R_ne HO126.out BK116.out (by decide)))
    replace BK117 := Aside0.mk (blk_grown (g := gb117) (o := .cells #[.slice none 0 0, .slice none 0 0] 26 (0, 0)) (bT_ BK117) hg (Kd.R_ne HO126.out BK117.out (by decide)))
    replace HO123 := Aside0.mk (Kd.R_after (ok := (fun _ => True)) (rM_ HO123 (fun _ hk => ⟨trivial, hk⟩)) hg hat)
    replace BK130 := Aside0.mk (blk_grown (g := gb130) (o := .cells #[.slice none 0 0, .slice none 0 0] 26 (0, 0)) (bT_ BK130) hg (Kd.R_ne HO126.out BK130.out (by decide)))
    replace HB := Aside0.mk (hb)
    have HO129 := Aside0.mk (ho)
    clear HO126 ho hb hg hat
    obtain ⟨Ao18, co18, eo18⟩ := Kd.R_slice HO129.out
    (first | subst eo18 | (injection eo18 with f1_ f2_ f3_; have f4_ := f1_.symm; have f5_ := f3_.symm; clear f1_ f2_ f3_; subst f4_; subst f5_))
    obtain ⟨Ao19, co19, eo19⟩ := Kd.R_slice HO123.out
    (first | subst eo19 | (injection eo19 with f1_ f2_ f3_; have f4_ := f1_.symm; have f5_ := f3_.symm; clear f1_ f2_ f3_; subst f4_; subst f5_))
    refine hK.out _ _ ⟨(blk_cell BK116.out 0).trans rfl, (blk_cell BK116.out 1).trans rfl⟩ (fun hHeld => ?_)
    clear hK K
    refine nS_ (some 26) ?_
    refine pT_ 8 (some 27) #[true, true, true, true, true, true, true, true, true, true, false] HT_ ?_
    exact norm_ (by simp only [putAll, Act.put, List.setIfInBounds_toArray, List.set_cons_zero, List.set_cons_succ] <;> rfl) (hJ0_3_4_7_9 (v119, .slice Ao19 y121.length co19, v125, .slice Ao18 y127.length co18, gb130) _ ⟨hHeld, (rM_ HO123), (rT_ HO129), (bT_ BK116), (bT_ BK117), (bT_ BK130), GW130.out, GE130.out, NB116_130.out, NB130_116.out, NB117_130.out, NB130_117.out, (by repeat (first | (with_reducible first | exact HB.out | apply below_alloc | apply pw_below_drewN | apply below_drew1 | refine below_set ?_ GE116.out | refine below_set ?_ GE117.out | refine below_set ?_ GE130.out) | exact HB.out))⟩)
  ·skip
   rintro ⟨v119, v122, v125, v128⟩ w18 ⟨hS_, h0_, h1_, h2_, h3_, h4_⟩
   try dsimp only at h0_ h1_ h2_ h3_ h4_
   have HO123 := Aside0.mk h0_; have HO129 := Aside0.mk h1_; replace BK116 := Aside0.mk h2_; replace BK117 := Aside0.mk h3_; replace HB := Aside0.mk h4_; clear h0_ h1_ h2_ h3_ h4_
   have hHeld : w18.cell? ⟨gb116, 0, none⟩ = some (.slice A0_0 l0_0.length c0_0) ∧ w18.cell? ⟨gb116, 1, none⟩ = some (.slice A0_1 l0_1.length c0_1) := hS_
   obtain ⟨Ao19, co19, eo19⟩ := Kd.R_slice HO129.out
   (first | subst eo19 | (injection eo19 with f1_ f2_ f3_; have f4_ := f1_.symm; have f5_ := f3_.symm; clear f1_ f2_ f3_; subst f4_; subst f5_))
   obtain ⟨Ao20, co20, eo20⟩ := Kd.R_slice HO123.out
   (first | subst eo20 | (injection eo20 with f1_ f2_ f3_; have f4_ := f1_.symm; have f5_ := f3_.symm; clear f1_ f2_ f3_; subst f4_; subst f5_))
   refine norm_ (a' := ?_) ?_ ?_
   rotate_left
   ·simp only [putAll, Act.put, List.setIfInBounds_toArray, List.set_cons_zero, List.set_cons_succ]
    rfl
   refine one_ (i := 9) (N := some 6) #[true, true, true, true, true, true, true, true, true, true, false] rfl rfl (one_of HT_.out (by kernel_rfl)) (by decide) (fun K hK => ?_)
   refine box_step ?hg (N := 6) ?hd (cs := #[.slice none 0 0, .slice none 0 0]) (t := 26) ?hr ?_; (case hd => rfl); (case hg => rfl); (case hr => first | (go_simp; done) | (go_simp; rfl))
   intro gb130 hg w21 hbox hb
   replace HO123 := rB_ HO123 hb; replace HO129 := rB_ HO129 hb
   have BK130 := Aside0.mk (hbox)
   have GW130 := gE_ HB hg; have GE130 := gE_ HB hg; replace HB := bS_ HB hb; have NB116_130 := nL_ BK116 hg; have NB130_116 := nG_ BK116 hg; replace BK116 := bB_ BK116 hb; have NB117_130 := nL_ BK117 hg; have NB130_117 := nG_ BK117 hg; replace BK117 := bB_ BK117 hb; clear hb hbox hg
   refine hK.out _ _ ⟨(blk_cell BK116.out 0).trans rfl, (blk_cell BK116.out 1).trans rfl⟩ (fun hHeld => ?_)
   clear hK K
   refine nS_ (some 6) ?_
   exact norm_ (by simp only [putAll, Act.put, List.setIfInBounds_toArray, List.set_cons_zero, List.set_cons_succ] <;> rfl) (hJ0_3_4_7_9 (v119, .slice Ao20 y121.length co20, v125, .slice Ao19 y127.length co19, gb130) _ ⟨hHeld, (rT_ HO123), (rT_ HO129), (bT_ BK116), (bT_ BK117), (bT_ BK130), GW130.out, GE130.out, NB116_130.out, NB130_116.out, NB117_130.out, NB130_117.out, (by repeat (first | (with_reducible first | exact HB.out | apply below_alloc | apply pw_below_drewN | apply below_drew1 | refine below_set ?_ GE116.out | refine below_set ?_ GE117.out | refine below_set ?_ GE130.out) | exact HB.out))⟩)
 rintro ⟨v119, v122, v125, v128, gb130⟩ w19 ⟨hS_, h0_, h1_, h2_, h3_, h4_, h5_, h6_, h7_, h8_, h9_, h10_, h11_⟩
 try dsimp only at h0_ h1_ h2_ h3_ h4_ h5_ h6_ h7_ h8_ h9_ h10_ h11_
 have HO123 := Aside0.mk h0_; have HO129 := Aside0.mk h1_; replace BK116 := Aside0.mk h2_; replace BK117 := Aside0.mk h3_; have BK130 := Aside0.mk h4_; have GW130 := Aside0.mk h5_; have GE130 := Aside0.mk h6_; have NB116_130 := Aside0.mk h7_; have NB130_116 := Aside0.mk h8_; have NB117_130 := Aside0.mk h9_; have NB130_117 := Aside0.mk h10_; replace HB := Aside0.mk h11_; clear h0_ h1_ h2_ h3_ h4_ h5_ h6_ h7_ h8_ h9_ h10_ h11_
 have hHeld : w19.cell? ⟨gb116, 0, none⟩ = some (.slice A0_0 l0_0.length c0_0) ∧ w19.cell? ⟨gb116, 1, none⟩ = some (.slice A0_1 l0_1.length c0_1) := hS_
 obtain ⟨Ao20, co20, eo20⟩ := Kd.R_slice HO129.out
 (first | subst eo20 | (injection eo20 with f1_ f2_ f3_; have f4_ := f1_.symm; have f5_ := f3_.symm; clear f1_ f2_ f3_; subst f4_; subst f5_))
 obtain ⟨Ao21, co21, eo21⟩ := Kd.R_slice HO123.out
 (first | subst eo21 | (injection eo21 with f1_ f2_ f3_; have f4_ := f1_.symm; have f5_ := f3_.symm; clear f1_ f2_ f3_; subst f4_; subst f5_))
 refine norm_ (a' := ?_) ?_ ?_
 rotate_left
 ·simp only [putAll, Act.put, List.setIfInBounds_toArray, List.set_cons_zero, List.set_cons_succ]
  rfl
 refine one_ (i := 10) (N := none) #[true, true, true, true, true, true, true, true, true, true, true] rfl rfl (one_of HT_.out (by kernel_rfl)) (by decide) (fun K hK => ?_)
 have hs22 : w19.cell? ⟨gb130, 0, none⟩ = some (.slice none 0 0) := (blk_cell BK130.out 0).trans rfl
 have hfs22 := blk_frozen BK130.out 0; have hns22_0 := NB116_130.out; have hns22_1 := NB117_130.out; have hms22_0 := NB130_116.out; have hms22_1 := NB130_117.out
 have hs23 : w19.cell? ⟨gb130, 1, none⟩ = some (.slice none 0 0) := (blk_cell BK130.out 1).trans rfl
 have hfs23 := blk_frozen BK130.out 1; have hns23_0 := NB116_130.out; have hns23_1 := NB117_130.out; have hms23_0 := NB130_116.out; have hms23_1 := NB130_117.out
 refine skip_ (w1 := ?_) (by rfl) rfl ?_ ?_
 rotate_left
 ·go_simp
  rfl
 refine hK.out _ _ ⟨((cell_far (p := ⟨gb130, _, none⟩) NB116_130.out _).trans (((cell_far (p := ⟨gb130, _, none⟩) NB116_130.out _).trans (hHeld.1)))), ((cell_far (p := ⟨gb130, _, none⟩) NB116_130.out _).trans (((cell_far (p := ⟨gb130, _, none⟩) NB116_130.out _).trans (hHeld.2))))⟩ (fun hHeld => ?_)
 clear hK K
 refine done_ (done_of HT_.out (by kernel_rfl)) ?_
 try go_wp2
 go_loopg [7] k (fun kq v7 w' => ∃ (x7_1 : Int) (x131000_1 : List Int) (x131001_1 : List Int) (u131000 : Value) (u131001 : Value), v7 = .int .i64 x7_1 ∧ Aside0 (spec_l17Step.l0 kq l1 (l0_0.length : Int) x7_1 l0_0 l0_1 x131000_1 x131001_1 = some (r1, r2)) ∧ Aside0 (kq ≤ k) ∧ Aside0 (Kd.R (Kd.int .i64) 2 w' w.heap.size (fun k_ => some k_ ≠ (u131001 : Value).ownBlock) u131000 x131000_1) ∧ Aside0 (Kd.R (Kd.int .i64) 2 w' w.heap.size (fun k_ => some k_ ≠ (u131000 : Value).ownBlock) u131001 x131001_1) ∧ Aside0 (w'.heap[gb116]? = some (.cells #[(.slice A0_0 l0_0.length c0_0), (.slice A0_1 l0_1.length c0_1)] 26 (0, 0))) ∧ Aside0 (w'.heap[gb117]? = some (.cells #[(.slice none 0 0), (.slice none 0 0)] 26 (0, 0))) ∧ Aside0 (w'.heap[gb130]? = some (.cells #[u131000, u131001] 26 (0, 0))) ∧ Aside0 (Below w.heap.size w w'))
 case atStart => exact ⟨(0), (y121), (y127), (.slice Ao21 y121.length co21), (.slice Ao20 y127.length co20), (by first | rfl | (simp; done) | (simp [*]; done)), H', ⟨Nat.le_refl _⟩, ⟨by (with_reducible repeat (first | apply Kd.R_alloc | apply Kd.R_drewN | apply Kd.R_drew)); exact Kd.R_mono (Kd.R_far (p := ⟨gb130, 1, none⟩) (Kd.R_far (p := ⟨gb130, 0, none⟩) (Kd.R_types HO123.out BK130.out (by decide)) (fun _ hk => hk.2) (.slice Ao21 y121.length co21)) (fun _ hk => hk.2) (.slice Ao20 y127.length co20)) (fun _ hk => hk.1)⟩, ⟨by (with_reducible repeat (first | apply Kd.R_alloc | apply Kd.R_drewN | apply Kd.R_drew)); exact Kd.R_mono (Kd.R_far (p := ⟨gb130, 1, none⟩) (Kd.R_far (p := ⟨gb130, 0, none⟩) (Kd.R_types HO129.out BK130.out (by decide)) (fun _ hk => hk.2) (.slice Ao21 y121.length co21)) (fun _ hk => hk.2) (.slice Ao20 y127.length co20)) (fun _ hk => hk.1)⟩, ⟨by (with_reducible repeat (first | refine blk_drewN ?_ _ | refine blk_drew ?_ | refine blk_alloc ?_ _)); refine blk_far ?_ NB116_130.out _; (with_reducible repeat (first | refine blk_drewN ?_ _ | refine blk_drew ?_ | refine blk_alloc ?_ _)); refine blk_far ?_ NB116_130.out _; exact bT_ BK116⟩, ⟨by (with_reducible repeat (first | refine blk_drewN ?_ _ | refine blk_drew ?_ | refine blk_alloc ?_ _)); refine blk_far ?_ NB117_130.out _; (with_reducible repeat (first | refine blk_drewN ?_ _ | refine blk_drew ?_ | refine blk_alloc ?_ _)); refine blk_far ?_ NB117_130.out _; exact bT_ BK117⟩, ⟨by (with_reducible repeat (first | refine blk_drewN ?_ _ | refine blk_drew ?_ | refine blk_alloc ?_ _)); refine blk_put (cs := #[.slice Ao21 y121.length co21, .slice none 0 0]) ?_ 1 _ rfl; (with_reducible repeat (first | refine blk_drewN ?_ _ | refine blk_drew ?_ | refine blk_alloc ?_ _)); refine blk_put (cs := #[.slice none 0 0, .slice none 0 0]) ?_ 0 _ rfl; exact bT_ BK130⟩, ⟨by repeat (first | (with_reducible first | exact HB.out | apply below_alloc | apply pw_below_drewN | apply below_drew1 | refine below_set ?_ GE116.out | refine below_set ?_ GE117.out | refine below_set ?_ GE130.out) | exact HB.out)⟩⟩
 case round =>
  clear H'; (try clear p2); (try clear c3); (try clear c4)
  obtain ⟨x7_1, x131000_1, x131001_1, u131000, u131001, rfl, HA, HK1, HO_131000, HO_131001, BK116, BK117, BK130, HB⟩ := hrel
  cases gk with
  | zero => exact absurd HA.out (by simp [spec_l17Step.l0])
  | succ k1 =>
   have H := HA.out; clear HA
   simp only [spec_l17Step.l0] at H
   by_cases c24 : x7_1 < (l0_0.length : Int)
   ·rw [if_pos c24] at H
    have c24b0 : decide (x7_1 < (l0_0.length : Int)) = true := decide_eq_true c24
    clear c24
    obtain ⟨c25, H⟩ := ifS_ H
    have c25b0 : decide (0 ≤ x7_1) = true := decide_eq_true c25
    clear c25
    obtain ⟨c26, H⟩ := ifS_ H
    have c26b0 : decide (x7_1 < (l0_0.length : Int)) = true := decide_eq_true c26
    clear c26
    obtain ⟨c27, H⟩ := ifS_ H
    have c27b0 : decide (x7_1 < (l0_1.length : Int)) = true := decide_eq_true c27
    clear c27
    by_cases c28 : (l0_0.length : Int) = 0
    ·rw [if_pos c28] at H
     exact absurd H (by simp)
    ·rw [if_neg c28] at H
     have c28b0 : ((l0_0.length : Int) == 0) = false := beq_eq_false_iff_ne.mpr c28
     have c28b1 : ((l0_0.length : Int) != 0) = true := bne_iff_ne.mpr c28
     have c28b2 : ¬ (l0_0 = []) := fun h_ => c28 (by rw [h_]; rfl)
     obtain ⟨c29, H⟩ := ifS_ H
     have c29b0 : decide (x7_1 < (l1.length : Int)) = true := decide_eq_true c29
     clear c29
     by_cases c30 : (rd l1 x7_1) < 0
     ·rw [if_pos c30] at H
      have c30b0 : decide ((rd l1 x7_1) < 0) = true := decide_eq_true c30
      clear c30; replace H := Option.bind_eq_some_iff.mp H
      obtain ⟨t136, A310, H⟩ := H
      replace H : (if x7_1 < (x131000_1.length : Int) then ((some (x131000_1.set (x7_1 : Int).toNat (wrap64 ((rd x131000_1 x7_1) - (wrap64 (Int.tdiv (wrap64 ((rd l0_0 x7_1) * (wrap64 (-(rd l1 x7_1))))) 256)))) : List Int)).bind fun y138 => (if 0 ≤ (Int.tmod (wrap64 ((wrap64 (x7_1 + (l0_0.length : Int))) - 1)) (l0_0.length : Int)) then (if (Int.tmod (wrap64 ((wrap64 (x7_1 + (l0_0.length : Int))) - 1)) (l0_0.length : Int)) < (x131000_1.length : Int) then ((some (y138.set ((Int.tmod (wrap64 ((wrap64 (x7_1 + (l0_0.length : Int))) - 1)) (l0_0.length : Int)) : Int).toNat (wrap64 ((rd y138 (Int.tmod (wrap64 ((wrap64 (x7_1 + (l0_0.length : Int))) - 1)) (l0_0.length : Int))) + (wrap64 (Int.tdiv (wrap64 ((rd l0_0 x7_1) * (wrap64 (-(rd l1 x7_1))))) 256)))) : List Int)).bind fun y140 => (if x7_1 < (x131001_1.length : Int) then ((some (x131001_1.set (x7_1 : Int).toNat (wrap64 ((rd x131001_1 x7_1) - t136)) : List Int)).bind fun y142 => (if (Int.tmod (wrap64 ((wrap64 (x7_1 + (l0_0.length : Int))) - 1)) (l0_0.length : Int)) < (x131001_1.length : Int) then ((some (y142.set ((Int.tmod (wrap64 ((wrap64 (x7_1 + (l0_0.length : Int))) - 1)) (l0_0.length : Int)) : Int).toNat (wrap64 ((rd y142 (Int.tmod (wrap64 ((wrap64 (x7_1 + (l0_0.length : Int))) - 1)) (l0_0.length : Int))) + t136)) : List Int)).bind fun y144 => (if 0 ≤ (Int.tmod (wrap64 (x7_1 + 1)) (l0_0.length : Int)) then (if (Int.tmod (wrap64 (x7_1 + 1)) (l0_0.length : Int)) < (l1.length : Int) then (if (rd l1 (Int.tmod (wrap64 (x7_1 + 1)) (l0_0.length : Int))) > 0 then ((spec_l17Part.f (wrap64 ((rd l0_1 x7_1) - t136)) (wrap64 (Int.tdiv (wrap64 ((rd l0_0 x7_1) * (rd l1 (Int.tmod (wrap64 (x7_1 + 1)) (l0_0.length : Int))))) 256)) (wrap64 ((rd l0_0 x7_1) - (wrap64 (Int.tdiv (wrap64 ((rd l0_0 x7_1) * (wrap64 (-(rd l1 x7_1))))) 256))))).bind fun t148 => ((some (y140.set (x7_1 : Int).toNat (wrap64 ((rd y140 x7_1) - (wrap64 (Int.tdiv (wrap64 ((rd l0_0 x7_1) * (rd l1 (Int.tmod (wrap64 (x7_1 + 1)) (l0_0.length : Int))))) 256)))) : List Int)).bind fun y150 => (if (Int.tmod (wrap64 (x7_1 + 1)) (l0_0.length : Int)) < (x131000_1.length : Int) then ((some (y144.set (x7_1 : Int).toNat (wrap64 ((rd y144 x7_1) - t148)) : List Int)).bind fun y154 => (if (Int.tmod (wrap64 (x7_1 + 1)) (l0_0.length : Int)) < (x131001_1.length : Int) then (spec_l17Step.l0 k1 l1 (l0_0.length : Int) (wrap64 (x7_1 + 1)) l0_0 l0_1 (y150.set ((Int.tmod (wrap64 (x7_1 + 1)) (l0_0.length : Int)) : Int).toNat (wrap64 ((rd y150 (Int.tmod (wrap64 (x7_1 + 1)) (l0_0.length : Int))) + (wrap64 (Int.tdiv (wrap64 ((rd l0_0 x7_1) * (rd l1 (Int.tmod (wrap64 (x7_1 + 1)) (l0_0.length : Int))))) 256))))) (y154.set ((Int.tmod (wrap64 (x7_1 + 1)) (l0_0.length : Int)) : Int).toNat (wrap64 ((rd y154 (Int.tmod (wrap64 (x7_1 + 1)) (l0_0.length : Int))) + t148)))) else (none))) else (none)))) else (spec_l17Step.l0 k1 l1 (l0_0.length : Int) (wrap64 (x7_1 + 1)) l0_0 l0_1 y140 y144)) else (none)) else (none))) else (none))) else (none))) else (none)) else (none))) else (none)) = some (r1, r2) := H
      have A31 := Aside0.mk A310; clear A310
      obtain ⟨c32, H⟩ := ifS_ H
      have c32b0 : decide (x7_1 < (x131000_1.length : Int)) = true := decide_eq_true c32
      clear c32
      obtain ⟨y138, hy138⟩ : ∃ y_ : List Int, y_ = (x131000_1.set (x7_1 : Int).toNat (wrap64 ((rd x131000_1 x7_1) - (wrap64 (Int.tdiv (wrap64 ((rd l0_0 x7_1) * (wrap64 (-(rd l1 x7_1))))) 256))))) := ⟨_, rfl⟩
      replace H : (if 0 ≤ (Int.tmod (wrap64 ((wrap64 (x7_1 + (l0_0.length : Int))) - 1)) (l0_0.length : Int)) then (if (Int.tmod (wrap64 ((wrap64 (x7_1 + (l0_0.length : Int))) - 1)) (l0_0.length : Int)) < (x131000_1.length : Int) then ((some (y138.set ((Int.tmod (wrap64 ((wrap64 (x7_1 + (l0_0.length : Int))) - 1)) (l0_0.length : Int)) : Int).toNat (wrap64 ((rd y138 (Int.tmod (wrap64 ((wrap64 (x7_1 + (l0_0.length : Int))) - 1)) (l0_0.length : Int))) + (wrap64 (Int.tdiv (wrap64 ((rd l0_0 x7_1) * (wrap64 (-(rd l1 x7_1))))) 256)))) : List Int)).bind fun y140 => (if x7_1 < (x131001_1.length : Int) then ((some (x131001_1.set (x7_1 : Int).toNat (wrap64 ((rd x131001_1 x7_1) - t136)) : List Int)).bind fun y142 => (if (Int.tmod (wrap64 ((wrap64 (x7_1 + (l0_0.length : Int))) - 1)) (l0_0.length : Int)) < (x131001_1.length : Int) then ((some (y142.set ((Int.tmod (wrap64 ((wrap64 (x7_1 + (l0_0.length : Int))) - 1)) (l0_0.length : Int)) : Int).toNat (wrap64 ((rd y142 (Int.tmod (wrap64 ((wrap64 (x7_1 + (l0_0.length : Int))) - 1)) (l0_0.length : Int))) + t136)) : List Int)).bind fun y144 => (if 0 ≤ (Int.tmod (wrap64 (x7_1 + 1)) (l0_0.length : Int)) then (if (Int.tmod (wrap64 (x7_1 + 1)) (l0_0.length : Int)) < (l1.length : Int) then (if (rd l1 (Int.tmod (wrap64 (x7_1 + 1)) (l0_0.length : Int))) > 0 then ((spec_l17Part.f (wrap64 ((rd l0_1 x7_1) - t136)) (wrap64 (Int.tdiv (wrap64 ((rd l0_0 x7_1) * (rd l1 (Int.tmod (wrap64 (x7_1 + 1)) (l0_0.length : Int))))) 256)) (wrap64 ((rd l0_0 x7_1) - (wrap64 (Int.tdiv (wrap64 ((rd l0_0 x7_1) * (wrap64 (-(rd l1 x7_1))))) 256))))).bind fun t148 => ((some (y140.set (x7_1 : Int).toNat (wrap64 ((rd y140 x7_1) - (wrap64 (Int.tdiv (wrap64 ((rd l0_0 x7_1) * (rd l1 (Int.tmod (wrap64 (x7_1 + 1)) (l0_0.length : Int))))) 256)))) : List Int)).bind fun y150 => (if (Int.tmod (wrap64 (x7_1 + 1)) (l0_0.length : Int)) < (x131000_1.length : Int) then ((some (y144.set (x7_1 : Int).toNat (wrap64 ((rd y144 x7_1) - t148)) : List Int)).bind fun y154 => (if (Int.tmod (wrap64 (x7_1 + 1)) (l0_0.length : Int)) < (x131001_1.length : Int) then (spec_l17Step.l0 k1 l1 (l0_0.length : Int) (wrap64 (x7_1 + 1)) l0_0 l0_1 (y150.set ((Int.tmod (wrap64 (x7_1 + 1)) (l0_0.length : Int)) : Int).toNat (wrap64 ((rd y150 (Int.tmod (wrap64 (x7_1 + 1)) (l0_0.length : Int))) + (wrap64 (Int.tdiv (wrap64 ((rd l0_0 x7_1) * (rd l1 (Int.tmod (wrap64 (x7_1 + 1)) (l0_0.length : Int))))) 256))))) (y154.set ((Int.tmod (wrap64 (x7_1 + 1)) (l0_0.length : Int)) : Int).toNat (wrap64 ((rd y154 (Int.tmod (wrap64 (x7_1 + 1)) (l0_0.length : Int))) + t148)))) else (none))) else (none)))) else (spec_l17Step.l0 k1 l1 (l0_0.length : Int) (wrap64 (x7_1 + 1)) l0_0 l0_1 y140 y144)) else (none)) else (none))) else (none))) else (none))) else (none)) else (none)) = some (r1, r2) := by first | (rw [hy138]; with_reducible exact H) | (have H2_ := (Option.bind_some _ _).symm.trans H; rw [hy138]; with_reducible exact H2_) | (have H2_ := (Option.bind_some _ _).symm.trans H; with_reducible exact H2_) | with_reducible exact H | (rw [hy138]; exact H) | exact H
      have Ny138 := Aside0.mk hy138; clear hy138
      obtain ⟨ji34, hji34⟩ : ∃ j_ : Int, (Int.tmod (wrap64 ((wrap64 (x7_1 + (l0_0.length : Int))) - 1)) (l0_0.length : Int)) = j_ := ⟨_, rfl⟩
      replace H : (if 0 ≤ (ji34) then (if (ji34) < (x131000_1.length : Int) then ((some (y138.set ((ji34) : Int).toNat (wrap64 ((rd y138 (ji34)) + (wrap64 (Int.tdiv (wrap64 ((rd l0_0 x7_1) * (wrap64 (-(rd l1 x7_1))))) 256)))) : List Int)).bind fun y140 => (if x7_1 < (x131001_1.length : Int) then ((some (x131001_1.set (x7_1 : Int).toNat (wrap64 ((rd x131001_1 x7_1) - t136)) : List Int)).bind fun y142 => (if (ji34) < (x131001_1.length : Int) then ((some (y142.set ((ji34) : Int).toNat (wrap64 ((rd y142 (ji34)) + t136)) : List Int)).bind fun y144 => (if 0 ≤ (Int.tmod (wrap64 (x7_1 + 1)) (l0_0.length : Int)) then (if (Int.tmod (wrap64 (x7_1 + 1)) (l0_0.length : Int)) < (l1.length : Int) then (if (rd l1 (Int.tmod (wrap64 (x7_1 + 1)) (l0_0.length : Int))) > 0 then ((spec_l17Part.f (wrap64 ((rd l0_1 x7_1) - t136)) (wrap64 (Int.tdiv (wrap64 ((rd l0_0 x7_1) * (rd l1 (Int.tmod (wrap64 (x7_1 + 1)) (l0_0.length : Int))))) 256)) (wrap64 ((rd l0_0 x7_1) - (wrap64 (Int.tdiv (wrap64 ((rd l0_0 x7_1) * (wrap64 (-(rd l1 x7_1))))) 256))))).bind fun t148 => ((some (y140.set (x7_1 : Int).toNat (wrap64 ((rd y140 x7_1) - (wrap64 (Int.tdiv (wrap64 ((rd l0_0 x7_1) * (rd l1 (Int.tmod (wrap64 (x7_1 + 1)) (l0_0.length : Int))))) 256)))) : List Int)).bind fun y150 => (if (Int.tmod (wrap64 (x7_1 + 1)) (l0_0.length : Int)) < (x131000_1.length : Int) then ((some (y144.set (x7_1 : Int).toNat (wrap64 ((rd y144 x7_1) - t148)) : List Int)).bind fun y154 => (if (Int.tmod (wrap64 (x7_1 + 1)) (l0_0.length : Int)) < (x131001_1.length : Int) then (spec_l17Step.l0 k1 l1 (l0_0.length : Int) (wrap64 (x7_1 + 1)) l0_0 l0_1 (y150.set ((Int.tmod (wrap64 (x7_1 + 1)) (l0_0.length : Int)) : Int).toNat (wrap64 ((rd y150 (Int.tmod (wrap64 (x7_1 + 1)) (l0_0.length : Int))) + (wrap64 (Int.tdiv (wrap64 ((rd l0_0 x7_1) * (rd l1 (Int.tmod (wrap64 (x7_1 + 1)) (l0_0.length : Int))))) 256))))) (y154.set ((Int.tmod (wrap64 (x7_1 + 1)) (l0_0.length : Int)) : Int).toNat (wrap64 ((rd y154 (Int.tmod (wrap64 (x7_1 + 1)) (l0_0.length : Int))) + t148)))) else (none))) else (none)))) else (spec_l17Step.l0 k1 l1 (l0_0.length : Int) (wrap64 (x7_1 + 1)) l0_0 l0_1 y140 y144)) else (none)) else (none))) else (none))) else (none))) else (none)) else (none)) = some (r1, r2) := by first | (rw [hji34] at H; exact H) | (simp only [hji34] at H ⊢; exact H)
      (try rw [hji34] at A31)
      obtain ⟨c35, H⟩ := ifS_ H
      have c35b0 : decide (0 ≤ (ji34)) = true := decide_eq_true c35
      clear c35
      obtain ⟨c36, H⟩ := ifS_ H
      have c36b0 : decide ((ji34) < (x131000_1.length : Int)) = true := decide_eq_true c36
      clear c36
      obtain ⟨y140, hy140⟩ : ∃ y_ : List Int, y_ = (y138.set ((ji34) : Int).toNat (wrap64 ((rd y138 (ji34)) + (wrap64 (Int.tdiv (wrap64 ((rd l0_0 x7_1) * (wrap64 (-(rd l1 x7_1))))) 256))))) := ⟨_, rfl⟩
      replace H : (if x7_1 < (x131001_1.length : Int) then ((some (x131001_1.set (x7_1 : Int).toNat (wrap64 ((rd x131001_1 x7_1) - t136)) : List Int)).bind fun y142 => (if (ji34) < (x131001_1.length : Int) then ((some (y142.set ((ji34) : Int).toNat (wrap64 ((rd y142 (ji34)) + t136)) : List Int)).bind fun y144 => (if 0 ≤ (Int.tmod (wrap64 (x7_1 + 1)) (l0_0.length : Int)) then (if (Int.tmod (wrap64 (x7_1 + 1)) (l0_0.length : Int)) < (l1.length : Int) then (if (rd l1 (Int.tmod (wrap64 (x7_1 + 1)) (l0_0.length : Int))) > 0 then ((spec_l17Part.f (wrap64 ((rd l0_1 x7_1) - t136)) (wrap64 (Int.tdiv (wrap64 ((rd l0_0 x7_1) * (rd l1 (Int.tmod (wrap64 (x7_1 + 1)) (l0_0.length : Int))))) 256)) (wrap64 ((rd l0_0 x7_1) - (wrap64 (Int.tdiv (wrap64 ((rd l0_0 x7_1) * (wrap64 (-(rd l1 x7_1))))) 256))))).bind fun t148 => ((some (y140.set (x7_1 : Int).toNat (wrap64 ((rd y140 x7_1) - (wrap64 (Int.tdiv (wrap64 ((rd l0_0 x7_1) * (rd l1 (Int.tmod (wrap64 (x7_1 + 1)) (l0_0.length : Int))))) 256)))) : List Int)).bind fun y150 => (if (Int.tmod (wrap64 (x7_1 + 1)) (l0_0.length : Int)) < (x131000_1.length : Int) then ((some (y144.set (x7_1 : Int).toNat (wrap64 ((rd y144 x7_1) - t148)) : List Int)).bind fun y154 => (if (Int.tmod (wrap64 (x7_1 + 1)) (l0_0.length : Int)) < (x131001_1.length : Int) then (spec_l17Step.l0 k1 l1 (l0_0.length : Int) (wrap64 (x7_1 + 1)) l0_0 l0_1 (y150.set ((Int.tmod (wrap64 (x7_1 + 1)) (l0_0.length : Int)) : Int).toNat (wrap64 ((rd y150 (Int.tmod (wrap64 (x7_1 + 1)) (l0_0.length : Int))) + (wrap64 (Int.tdiv (wrap64 ((rd l0_0 x7_1) * (rd l1 (Int.tmod (wrap64 (x7_1 + 1)) (l0_0.length : Int))))) 256))))) (y154.set ((Int.tmod (wrap64 (x7_1 + 1)) (l0_0.length : Int)) : Int).toNat (wrap64 ((rd y154 (Int.tmod (wrap64 (x7_1 + 1)) (l0_0.length : Int))) + t148)))) else (none))) else (none)))) else (spec_l17Step.l0 k1 l1 (l0_0.length : Int) (wrap64 (x7_1 + 1)) l0_0 l0_1 y140 y144)) else (none)) else (none))) else (none))) else (none)) = some (r1, r2) := by first | (rw [hy140]; with_reducible exact H) | (have H2_ := (Option.bind_some _ _).symm.trans H; rw [hy140]; with_reducible exact H2_) | (have H2_ := (Option.bind_some _ _).symm.trans H; with_reducible exact H2_) | with_reducible exact H | (rw [hy140]; exact H) | exact H
      have Ny140 := Aside0.mk hy140; clear hy140
      obtain ⟨c38, H⟩ := ifS_ H
      have c38b0 : decide (x7_1 < (x131001_1.length : Int)) = true := decide_eq_true c38
      clear c38
      obtain ⟨y142, hy142⟩ : ∃ y_ : List Int, y_ = (x131001_1.set (x7_1 : Int).toNat (wrap64 ((rd x131001_1 x7_1) - t136))) := ⟨_, rfl⟩
      replace H : (if (ji34) < (x131001_1.length : Int) then ((some (y142.set ((ji34) : Int).toNat (wrap64 ((rd y142 (ji34)) + t136)) : List Int)).bind fun y144 => (if 0 ≤ (Int.tmod (wrap64 (x7_1 + 1)) (l0_0.length : Int)) then (if (Int.tmod (wrap64 (x7_1 + 1)) (l0_0.length : Int)) < (l1.length : Int) then (if (rd l1 (Int.tmod (wrap64 (x7_1 + 1)) (l0_0.length : Int))) > 0 then ((spec_l17Part.f (wrap64 ((rd l0_1 x7_1) - t136)) (wrap64 (Int.tdiv (wrap64 ((rd l0_0 x7_1) * (rd l1 (Int.tmod (wrap64 (x7_1 + 1)) (l0_0.length : Int))))) 256)) (wrap64 ((rd l0_0 x7_1) - (wrap64 (Int.tdiv (wrap64 ((rd l0_0 x7_1) * (wrap64 (-(rd l1 x7_1))))) 256))))).bind fun t148 => ((some (y140.set (x7_1 : Int).toNat (wrap64 ((rd y140 x7_1) - (wrap64 (Int.tdiv (wrap64 ((rd l0_0 x7_1) * (rd l1 (Int.tmod (wrap64 (x7_1 + 1)) (l0_0.length : Int))))) 256)))) : List Int)).bind fun y150 => (if (Int.tmod (wrap64 (x7_1 + 1)) (l0_0.length : Int)) < (x131000_1.length : Int) then ((some (y144.set (x7_1 : Int).toNat (wrap64 ((rd y144 x7_1) - t148)) : List Int)).bind fun y154 => (if (Int.tmod (wrap64 (x7_1 + 1)) (l0_0.length : Int)) < (x131001_1.length : Int) then (spec_l17Step.l0 k1 l1 (l0_0.length : Int) (wrap64 (x7_1 + 1)) l0_0 l0_1 (y150.set ((Int.tmod (wrap64 (x7_1 + 1)) (l0_0.length : Int)) : Int).toNat (wrap64 ((rd y150 (Int.tmod (wrap64 (x7_1 + 1)) (l0_0.length : Int))) + (wrap64 (Int.tdiv (wrap64 ((rd l0_0 x7_1) * (rd l1 (Int.tmod (wrap64 (x7_1 + 1)) (l0_0.length : Int))))) 256))))) (y154.set ((Int.tmod (wrap64 (x7_1 + 1)) (l0_0.length : Int)) : Int).toNat (wrap64 ((rd y154 (Int.tmod (wrap64 (x7_1 + 1)) (l0_0.length : Int))) + t148)))) else (none))) else (none)))) else (spec_l17Step.l0 k1 l1 (l0_0.length : Int) (wrap64 (x7_1 + 1)) l0_0 l0_1 y140 y144)) else (none)) else (none))) else (none)) = some (r1, r2) := by first | (rw [hy142]; with_reducible exact H) | (have H2_ := (Option.bind_some _ _).symm.trans H; rw [hy142]; with_reducible exact H2_) | (have H2_ := (Option.bind_some _ _).symm.trans H; with_reducible exact H2_) | with_reducible exact H | (rw [hy142]; exact H) | exact H
      have Ny142 := Aside0.mk hy142; clear hy142
      obtain ⟨c40, H⟩ := ifS_ H
      have c40b0 : decide ((ji34) < (x131001_1.length : Int)) = true := decide_eq_true c40
      clear c40
      obtain ⟨y144, hy144⟩ : ∃ y_ : List Int, y_ = (y142.set ((ji34) : Int).toNat (wrap64 ((rd y142 (ji34)) + t136))) := ⟨_, rfl⟩
      replace H : (if 0 ≤ (Int.tmod (wrap64 (x7_1 + 1)) (l0_0.length : Int)) then (if (Int.tmod (wrap64 (x7_1 + 1)) (l0_0.length : Int)) < (l1.length : Int) then (if (rd l1 (Int.tmod (wrap64 (x7_1 + 1)) (l0_0.length : Int))) > 0 then ((spec_l17Part.f (wrap64 ((rd l0_1 x7_1) - t136)) (wrap64 (Int.tdiv (wrap64 ((rd l0_0 x7_1) * (rd l1 (Int.tmod (wrap64 (x7_1 + 1)) (l0_0.length : Int))))) 256)) (wrap64 ((rd l0_0 x7_1) - (wrap64 (Int.tdiv (wrap64 ((rd l0_0 x7_1) * (wrap64 (-(rd l1 x7_1))))) 256))))).bind fun t148 => ((some (y140.set (x7_1 : Int).toNat (wrap64 ((rd y140 x7_1) - (wrap64 (Int.tdiv (wrap64 ((rd l0_0 x7_1) * (rd l1 (Int.tmod (wrap64 (x7_1 + 1)) (l0_0.length : Int))))) 256)))) : List Int)).bind fun y150 => (if (Int.tmod (wrap64 (x7_1 + 1)) (l0_0.length : Int)) < (x131000_1.length : Int) then ((some (y144.set (x7_1 : Int).toNat (wrap64 ((rd y144 x7_1) - t148)) : List Int)).bind fun y154 => (if (Int.tmod (wrap64 (x7_1 + 1)) (l0_0.length : Int)) < (x131001_1.length : Int) then (spec_l17Step.l0 k1 l1 (l0_0.length : Int) (wrap64 (x7_1 + 1)) l0_0 l0_1 (y150.set ((Int.tmod (wrap64 (x7_1 + 1)) (l0_0.length : Int)) : Int).toNat (wrap64 ((rd y150 (Int.tmod (wrap64 (x7_1 + 1)) (l0_0.length : Int))) + (wrap64 (Int.tdiv (wrap64 ((rd l0_0 x7_1) * (rd l1 (Int.tmod (wrap64 (x7_1 + 1)) (l0_0.length : Int))))) 256))))) (y154.set ((Int.tmod (wrap64 (x7_1 + 1)) (l0_0.length : Int)) : Int).toNat (wrap64 ((rd y154 (Int.tmod (wrap64 (x7_1 + 1)) (l0_0.length : Int))) + t148)))) else (none))) else (none)))) else (spec_l17Step.l0 k1 l1 (l0_0.length : Int) (wrap64 (x7_1 + 1)) l0_0 l0_1 y140 y144)) else (none)) else (none)) = some (r1, r2) := by first | (rw [hy144]; with_reducible exact H) | (have H2_ := (Option.bind_some _ _).symm.trans H; rw [hy144]; with_reducible exact H2_) | (have H2_ := (Option.bind_some _ _).symm.trans H; with_reducible exact H2_) | with_reducible exact H | (rw [hy144]; exact H) | exact H
      have Ny144 := Aside0.mk hy144; clear hy144
      obtain ⟨ji42, hji42⟩ : ∃ j_ : Int, (Int.tmod (wrap64 (x7_1 + 1)) (l0_0.length : Int)) = j_ := ⟨_, rfl⟩
      replace H : (if 0 ≤ (ji42) then (if (ji42) < (l1.length : Int) then (if (rd l1 (ji42)) > 0 then ((spec_l17Part.f (wrap64 ((rd l0_1 x7_1) - t136)) (wrap64 (Int.tdiv (wrap64 ((rd l0_0 x7_1) * (rd l1 (ji42)))) 256)) (wrap64 ((rd l0_0 x7_1) - (wrap64 (Int.tdiv (wrap64 ((rd l0_0 x7_1) * (wrap64 (-(rd l1 x7_1))))) 256))))).bind fun t148 => ((some (y140.set (x7_1 : Int).toNat (wrap64 ((rd y140 x7_1) - (wrap64 (Int.tdiv (wrap64 ((rd l0_0 x7_1) * (rd l1 (ji42)))) 256)))) : List Int)).bind fun y150 => (if (ji42) < (x131000_1.length : Int) then ((some (y144.set (x7_1 : Int).toNat (wrap64 ((rd y144 x7_1) - t148)) : List Int)).bind fun y154 => (if (ji42) < (x131001_1.length : Int) then (spec_l17Step.l0 k1 l1 (l0_0.length : Int) (wrap64 (x7_1 + 1)) l0_0 l0_1 (y150.set ((ji42) : Int).toNat (wrap64 ((rd y150 (ji42)) + (wrap64 (Int.tdiv (wrap64 ((rd l0_0 x7_1) * (rd l1 (ji42)))) 256))))) (y154.set ((ji42) : Int).toNat (wrap64 ((rd y154 (ji42)) + t148)))) else (none))) else (none)))) else (spec_l17Step.l0 k1 l1 (l0_0.length : Int) (wrap64 (x7_1 + 1)) l0_0 l0_1 y140 y144)) else (none)) else (none)) = some (r1, r2) := by first | (rw [hji42] at H; exact H) | (simp only [hji42] at H ⊢; exact H)
      (try rw [hji42] at A31)
      obtain ⟨c43, H⟩ := ifS_ H
      have c43b0 : decide (0 ≤ (ji42)) = true := decide_eq_true c43
      clear c43
      obtain ⟨c44, H⟩ := ifS_ H
      have c44b0 : decide ((ji42) < (l1.length : Int)) = true := decide_eq_true c44
      clear c44
      by_cases c45 : (rd l1 (ji42)) > 0
      ·rw [if_pos c45] at H
       have c45b0 : decide (0 < (rd l1 (ji42))) = true := decide_eq_true c45
       clear c45; replace H := Option.bind_eq_some_iff.mp H
       obtain ⟨t148, A460, H⟩ := H
       replace H : ((some (y140.set (x7_1 : Int).toNat (wrap64 ((rd y140 x7_1) - (wrap64 (Int.tdiv (wrap64 ((rd l0_0 x7_1) * (rd l1 (ji42)))) 256)))) : List Int)).bind fun y150 => (if (ji42) < (x131000_1.length : Int) then ((some (y144.set (x7_1 : Int).toNat (wrap64 ((rd y144 x7_1) - t148)) : List Int)).bind fun y154 => (if (ji42) < (x131001_1.length : Int) then (spec_l17Step.l0 k1 l1 (l0_0.length : Int) (wrap64 (x7_1 + 1)) l0_0 l0_1 (y150.set ((ji42) : Int).toNat (wrap64 ((rd y150 (ji42)) + (wrap64 (Int.tdiv (wrap64 ((rd l0_0 x7_1) * (rd l1 (ji42)))) 256))))) (y154.set ((ji42) : Int).toNat (wrap64 ((rd y154 (ji42)) + t148)))) else (none))) else (none))) = some (r1, r2) := H
       have A46 := Aside0.mk A460; clear A460
       obtain ⟨y150, hy150⟩ : ∃ y_ : List Int, y_ = (y140.set (x7_1 : Int).toNat (wrap64 ((rd y140 x7_1) - (wrap64 (Int.tdiv (wrap64 ((rd l0_0 x7_1) * (rd l1 (ji42)))) 256))))) := ⟨_, rfl⟩
       replace H : (if (ji42) < (x131000_1.length : Int) then ((some (y144.set (x7_1 : Int).toNat (wrap64 ((rd y144 x7_1) - t148)) : List Int)).bind fun y154 => (if (ji42) < (x131001_1.length : Int) then (spec_l17Step.l0 k1 l1 (l0_0.length : Int) (wrap64 (x7_1 + 1)) l0_0 l0_1 (y150.set ((ji42) : Int).toNat (wrap64 ((rd y150 (ji42)) + (wrap64 (Int.tdiv (wrap64 ((rd l0_0 x7_1) * (rd l1 (ji42)))) 256))))) (y154.set ((ji42) : Int).toNat (wrap64 ((rd y154 (ji42)) + t148)))) else (none))) else (none)) = some (r1, r2) := by first | (rw [hy150]; with_reducible exact H) | (have H2_ := (Option.bind_some _ _).symm.trans H; rw [hy150]; with_reducible exact H2_) | (have H2_ := (Option.bind_some _ _).symm.trans H; with_reducible exact H2_) | with_reducible exact H | (rw [hy150]; exact H) | exact H
       have Ny150 := Aside0.mk hy150; clear hy150
       obtain ⟨c48, H⟩ := ifS_ H
       have c48b0 : decide ((ji42) < (x131000_1.length : Int)) = true := decide_eq_true c48
       clear c48
       obtain ⟨y152, hy152⟩ : ∃ y_ : List Int, y_ = (y150.set ((ji42) : Int).toNat (wrap64 ((rd y150 (ji42)) + (wrap64 (Int.tdiv (wrap64 ((rd l0_0 x7_1) * (rd l1 (ji42)))) 256))))) := ⟨_, rfl⟩
       replace H : ((some (y144.set (x7_1 : Int).toNat (wrap64 ((rd y144 x7_1) - t148)) : List Int)).bind fun y154 => (if (ji42) < (x131001_1.length : Int) then (spec_l17Step.l0 k1 l1 (l0_0.length : Int) (wrap64 (x7_1 + 1)) l0_0 l0_1 y152 (y154.set ((ji42) : Int).toNat (wrap64 ((rd y154 (ji42)) + t148)))) else (none))) = some (r1, r2) := by first | (rw [hy152]; with_reducible exact H) | (have H2_ := (Option.bind_some _ _).symm.trans H; rw [hy152]; with_reducible exact H2_) | (have H2_ := (Option.bind_some _ _).symm.trans H; with_reducible exact H2_) | with_reducible exact H | (rw [hy152]; exact H) | exact H
       have Ny152 := Aside0.mk hy152; clear hy152
       obtain ⟨y154, hy154⟩ : ∃ y_ : List Int, y_ = (y144.set (x7_1 : Int).toNat (wrap64 ((rd y144 x7_1) - t148))) := ⟨_, rfl⟩
       replace H : (if (ji42) < (x131001_1.length : Int) then (spec_l17Step.l0 k1 l1 (l0_0.length : Int) (wrap64 (x7_1 + 1)) l0_0 l0_1 y152 (y154.set ((ji42) : Int).toNat (wrap64 ((rd y154 (ji42)) + t148)))) else (none)) = some (r1, r2) := by first | (rw [hy154]; with_reducible exact H) | (have H2_ := (Option.bind_some _ _).symm.trans H; rw [hy154]; with_reducible exact H2_) | (have H2_ := (Option.bind_some _ _).symm.trans H; with_reducible exact H2_) | with_reducible exact H | (rw [hy154]; exact H) | exact H
       have Ny154 := Aside0.mk hy154; clear hy154
       obtain ⟨c51, H⟩ := ifS_ H
       have c51b0 : decide ((ji42) < (x131001_1.length : Int)) = true := decide_eq_true c51
       clear c51
       obtain ⟨y156, hy156⟩ : ∃ y_ : List Int, y_ = (y154.set ((ji42) : Int).toNat (wrap64 ((rd y154 (ji42)) + t148))) := ⟨_, rfl⟩
       replace H : (spec_l17Step.l0 k1 l1 (l0_0.length : Int) (wrap64 (x7_1 + 1)) l0_0 l0_1 y152 y156) = some (r1, r2) := by first | (rw [hy156]; with_reducible exact H) | (have H2_ := (Option.bind_some _ _).symm.trans H; rw [hy156]; with_reducible exact H2_) | (have H2_ := (Option.bind_some _ _).symm.trans H; with_reducible exact H2_) | with_reducible exact H | (rw [hy156]; exact H) | exact H
       have Ny156 := Aside0.mk hy156; clear hy156; have H' := Aside0.mk H; clear H; have hnb53 := NB116_117.out; have hnc53 := NB117_116.out; have hnb54 := NB116_130.out; have hnc54 := NB130_116.out
       have hcz55_0 : wr.cell? ⟨gb116, 0, none⟩ = some (.slice A0_0 l0_0.length c0_0) := (blk_cell BK116.out 0).trans rfl
       have hcz55_1 : wr.cell? ⟨gb116, 1, none⟩ = some (.slice A0_1 l0_1.length c0_1) := (blk_cell BK116.out 1).trans rfl
       have hfz55_0 := blk_frozen BK116.out 0; have hfz55_1 := blk_frozen BK116.out 1
       have p131 : 0 ≤ (x7_1 : Int) := of_decide_eq_true (by first | (with_reducible assumption) | assumption)
       have q131 : x7_1 < (l0_0.length : Int) := of_decide_eq_true (by first | (with_reducible assumption) | assumption)
       obtain ⟨ad131, e131, hx131_0⟩ := Kd.at_int HR0_0.out x7_1 p131 q131
       cases e131
       replace hx131_0 := (HB.out.cell (World.block_lt_of_cell? w _ hx131_0)).trans hx131_0
       replace p131 := eq_true p131; replace q131 := eq_true q131
       have p132 : 0 ≤ (x7_1 : Int) := of_decide_eq_true (by first | (with_reducible assumption) | assumption)
       have q132 : x7_1 < (l0_1.length : Int) := of_decide_eq_true (by first | (with_reducible assumption) | assumption)
       obtain ⟨ad132, e132, hx132_0⟩ := Kd.at_int HR0_1.out x7_1 p132 q132
       cases e132
       replace hx132_0 := (HB.out.cell (World.block_lt_of_cell? w _ hx132_0)).trans hx132_0
       replace p132 := eq_true p132; replace q132 := eq_true q132
       have p133 : 0 ≤ (x7_1 : Int) := of_decide_eq_true (by first | (with_reducible assumption) | assumption)
       have q133 : x7_1 < (l1.length : Int) := of_decide_eq_true (by first | (with_reducible assumption) | assumption)
       obtain ⟨ad133, e133, hx133_0⟩ := Kd.at_int HR1.out x7_1 p133 q133
       cases e133
       replace hx133_0 := (HB.out.cell (World.block_lt_of_cell? w _ hx133_0)).trans hx133_0
       replace p133 := eq_true p133; replace q133 := eq_true q133
       try go_wp2
       replace HO_131000 := Aside0.mk (Kd.R_drew HO_131000.out)
       replace HO_131001 := Aside0.mk (Kd.R_drew HO_131001.out)
       replace BK116 := Aside0.mk (blk_drew BK116.out)
       replace BK117 := Aside0.mk (blk_drew BK117.out)
       replace BK130 := Aside0.mk (blk_drew BK130.out)
       replace HB := Aside0.mk (below_drew1 HB.out)
       have p134 : 0 ≤ (x7_1 : Int) := of_decide_eq_true (by first | (with_reducible assumption) | assumption)
       have q134 : x7_1 < (l0_0.length : Int) := of_decide_eq_true (by first | (with_reducible assumption) | assumption)
       obtain ⟨ad134, e134, hx134_0⟩ := Kd.at_int HR0_0.out x7_1 p134 q134
       have hw134_0 := hx134_0
       obtain rfl : ad131 = ad134 := (by injection e134)
       replace hx134_0 := (HB.out.cell (World.block_lt_of_cell? w _ hx134_0)).trans hx134_0
       replace p134 := eq_true p134; replace q134 := eq_true q134
       have p135 : 0 ≤ (x7_1 : Int) := of_decide_eq_true (by first | (with_reducible assumption) | assumption)
       have q135 : x7_1 < (l1.length : Int) := of_decide_eq_true (by first | (with_reducible assumption) | assumption)
       obtain ⟨ad135, e135, hx135_0⟩ := Kd.at_int HR1.out x7_1 p135 q135
       have hw135_0 := hx135_0
       obtain rfl : ad133 = ad135 := (by injection e135)
       replace hx135_0 := (HB.out.cell (World.block_lt_of_cell? w _ hx135_0)).trans hx135_0
       replace p135 := eq_true p135; replace q135 := eq_true q135
       refine start_ (n := 13) (S := fun w' => w'.cell? ⟨gb116, 0, none⟩ = some (.slice (some ad131) l0_0.length c0_0) ∧ w'.cell? ⟨gb116, 1, none⟩ = some (.slice (some ad132) l0_1.length c0_1) ∧ w'.cell? (ad131.add (x7_1).toNat) = some (.int .i64 (rd l0_0 x7_1)) ∧ w'.cell? (ad133.add (x7_1).toNat) = some (.int .i64 (rd l1 x7_1))) (ds := []) #[false, false, false, false, false, false, false, false, false, false, false, false, false] (by kernel_rfl) rfl rfl ⟨(blk_cell BK116.out 0).trans rfl, (blk_cell BK116.out 1).trans rfl, ((HB.out.cell (World.block_lt_of_cell? w _ hw134_0)).trans hw134_0), ((HB.out.cell (World.block_lt_of_cell? w _ hw135_0)).trans hw135_0)⟩ (fun hHeld => ?_); refine with_tabW spec_l17Step.tab11 spec_l17Step.bits11 (fun HT_ HW_ => ?_)
       generalize wr.drew = w56 at HO_131000 HO_131001 BK116 BK117 BK130 HB hx134_0 hx135_0 hHeld ⊢
       refine pT_ 0 (some 58) #[true, false, false, false, false, false, false, false, false, false, false, false, false] HT_ ?_
       refine pT_ 2 (some 60) #[true, false, true, false, false, false, false, false, false, false, false, false, false] HT_ ?_
       refine pT_ 5 (some 63) #[true, false, true, false, false, true, false, false, false, false, false, false, false] HT_ ?_
       refine pT_ 6 (some 64) #[true, false, true, false, false, true, true, false, false, false, false, false, false] HT_ ?_
       refine pT_ 7 (some 65) #[true, false, true, false, false, true, true, true, false, false, false, false, false] HT_ ?_
       refine tT_ 1 (some 59) #[true, true, true, false, false, true, true, true, false, false, false, false, false] HT_ HW_ hHeld ?_ (hy := by rintro w' ⟨s0, s1, s2, s3⟩; go_simp; with_reducible rfl)
       refine pT_ 3 (some 61) #[true, true, true, true, false, true, true, true, false, false, false, false, false] HT_ ?_
       refine tT_ 4 (some 62) #[true, true, true, true, true, true, true, true, false, false, false, false, false] HT_ HW_ hHeld ?_ (hy := by rintro w' ⟨s0, s1, s2, s3⟩; go_simp; with_reducible rfl)
       refine tT_ 8 (some 66) #[true, true, true, true, true, true, true, true, true, false, false, false, false] HT_ HW_ hHeld ?_ (hy := by rintro w' ⟨s0, s1, s2, s3⟩; go_simp; with_reducible rfl)
       refine pT_ 9 (some 67) #[true, true, true, true, true, true, true, true, true, true, false, false, false] HT_ ?_
       refine pT_ 10 (some 68) #[true, true, true, true, true, true, true, true, true, true, true, false, false] HT_ ?_
       refine pT_ 11 (some 69) #[true, true, true, true, true, true, true, true, true, true, true, true, false] HT_ ?_
       refine pT_ 12 (some 12) #[true, true, true, true, true, true, true, true, true, true, true, true, true] HT_ ?_
       refine done_ (done_of HT_.out (by kernel_rfl)) ?_
       try go_wp2_with (first | ((with_reducible refine gate_callee (f := 39) rfl ?_); refine gL_ (some 73) Try.func39 #[.int .i64 (rd l0_1 x7_1), .int .i64 (wrap64 (Int.tdiv (wrap64 ((rd l0_0 x7_1) * (wrap64 (-(rd l1 x7_1))))) 256)), .int .i64 (rd l0_0 x7_1)] ?_; (with_reducible refine (spec_l17Part.calls (rd l0_1 x7_1) (wrap64 (Int.tdiv (wrap64 ((rd l0_0 x7_1) * (wrap64 (-(rd l1 x7_1))))) 256)) (rd l0_0 x7_1) t136 _ A31.out).mono ?_); rintro e w' ⟨rfl, ⟨nd, rfl⟩⟩; refine ⟨_, rfl, ?_⟩; (try (rw [drewN_self w56]; generalize hq_ : World.drewN w56 _ = w56; have n0_ : Aside0 (Kd.R (Kd.int .i64) 2 w56 w.heap.size (fun k_ => some k_ ≠ (u131001 : Value).ownBlock) u131000 x131000_1) := ⟨by rw [← hq_]; exact (rT_ HO_131000)⟩; have n1_ : Aside0 (Kd.R (Kd.int .i64) 2 w56 w.heap.size (fun k_ => some k_ ≠ (u131000 : Value).ownBlock) u131001 x131001_1) := ⟨by rw [← hq_]; exact (rT_ HO_131001)⟩; have n2_ : Aside0 (w56.heap[gb116]? = some (.cells #[.slice (some ad131) l0_0.length c0_0, .slice (some ad132) l0_1.length c0_1] 26 (0, 0))) := ⟨by rw [← hq_]; exact (bT_ BK116)⟩; have n3_ : Aside0 (w56.heap[gb117]? = some (.cells #[.slice none 0 0, .slice none 0 0] 26 (0, 0))) := ⟨by rw [← hq_]; exact (bT_ BK117)⟩; have n4_ : Aside0 (w56.heap[gb130]? = some (.cells #[u131000, u131001] 26 (0, 0))) := ⟨by rw [← hq_]; exact (bT_ BK130)⟩; have n5_ : Aside0 (Below w.heap.size w w56) := ⟨by rw [← hq_]; exact (by repeat (first | (with_reducible first | exact HB.out | apply below_alloc | apply pw_below_drewN | apply below_drew1 | refine below_set ?_ GE116.out | refine below_set ?_ GE117.out | refine below_set ?_ GE130.out) | exact HB.out))⟩; clear HO_131000 HO_131001 BK116 BK117 BK130 HB hq_; have HO_131000 := n0_; have HO_131001 := n1_; have BK116 := n2_; have BK117 := n3_; have BK130 := n4_; have HB := n5_; clear n0_ n1_ n2_ n3_ n4_ n5_))))
       replace HO_131000 := Aside0.mk (Kd.R_drew HO_131000.out)
       replace HO_131001 := Aside0.mk (Kd.R_drew HO_131001.out)
       replace BK116 := Aside0.mk (blk_drew BK116.out)
       replace BK117 := Aside0.mk (blk_drew BK117.out)
       replace BK130 := Aside0.mk (blk_drew BK130.out)
       replace HB := Aside0.mk (below_drew1 HB.out)
       obtain ⟨Ao58, co58, eo58⟩ := Kd.R_slice HO_131000.out
       (first | subst eo58 | (injection eo58 with f1_ f2_ f3_; have f4_ := f1_.symm; have f5_ := f3_.symm; clear f1_ f2_ f3_; subst f4_; subst f5_))
       have p137 : 0 ≤ (x7_1 : Int) := of_decide_eq_true (by first | (with_reducible assumption) | assumption)
       have q137 : x7_1 < (x131000_1.length : Int) := of_decide_eq_true (by first | (with_reducible assumption) | assumption)
       obtain ⟨ad137, e137, hx137_0⟩ := Kd.at_int (Kd.R_reads' HO_131000.out).2.2 x7_1 p137 q137
       cases e137
       replace p137 := eq_true p137; replace q137 := eq_true q137
       have p33 : 0 ≤ (x7_1 : Int) := of_decide_eq_true (by first | (with_reducible assumption) | assumption)
       have q33 : (x7_1 : Int) < ((x131000_1.length : Int) : Int) := of_decide_eq_true (by first | (with_reducible assumption) | assumption)
       obtain ⟨go33, co33, eo33, gb33, gl33, cl33, HG33⟩ := Kd.R_form HO_131000.out (by omega)
       (first | cases eo33 | (injection eo33 with ea_ en_ ec_; (first | subst ea_ | (injection ea_ with ea_; subst ea_)); subst ec_; clear en_))
       have GB33 := Aside0.mk gb33; have GG33 := Aside0.mk HG33; clear gb33 gl33 HG33
       (first | simp only [add_plain] at hx137_0 | skip)
       obtain ⟨hx33_0, hf33_0⟩ := Kd.R_celln 0 HO_131000.out (x7_1 : Int) p33 q33
       replace p33 := eq_true p33; replace q33 := eq_true q33
       have HP59 := Kd.R_putn HO_131000.out (x7_1 : Int) (wrap64 ((rd x131000_1 x7_1) - (wrap64 (Int.tdiv (wrap64 ((rd l0_0 x7_1) * (wrap64 (-(rd l1 x7_1))))) 256))))
       rw [← Ny138.out] at HP59
       have HQ59 := Aside0.mk HP59; clear HP59
       refine start_ (n := 12) (S := fun w' => w'.cell? ⟨gb130, 0, none⟩ = some (.slice (some ⟨go33, 0, none⟩) x131000_1.length co58) ∧ w'.cell? ⟨gb130, 1, none⟩ = some (u131001) ∧ w'.cell? ⟨go33, (x7_1).toNat, none⟩ = some (.int .i64 (rd x131000_1 x7_1))) (ds := [11]) #[false, false, false, false, false, false, false, false, false, false, false, false] (by kernel_rfl) rfl rfl ⟨(blk_cell BK130.out 0).trans rfl, (blk_cell BK130.out 1).trans rfl, hx137_0⟩ (fun hHeld => ?_); refine with_tabW spec_l17Step.tab13 spec_l17Step.bits13 (fun HT_ HW_ => ?_)
       generalize w56.drew = w57 at HO_131000 HO_131001 BK116 BK117 BK130 HB GG33 HQ59 hf33_0 hx137_0 hx33_0 hHeld ⊢
       refine pT_ 0 (some 74) #[true, false, false, false, false, false, false, false, false, false, false, false] HT_ ?_
       refine pT_ 2 (some 76) #[true, false, true, false, false, false, false, false, false, false, false, false] HT_ ?_
       refine pT_ 3 (some 77) #[true, false, true, true, false, false, false, false, false, false, false, false] HT_ ?_
       refine pT_ 5 (some 79) #[true, false, true, true, false, true, false, false, false, false, false, false] HT_ ?_
       refine pT_ 8 (some 82) #[true, false, true, true, false, true, false, false, true, false, false, false] HT_ ?_
       refine tT_ 1 (some 75) #[true, true, true, true, false, true, false, false, true, false, false, false] HT_ HW_ hHeld ?_ (hy := by rintro w' ⟨s0, s1, s2⟩; go_simp; with_reducible rfl)
       refine tT_ 4 (some 78) #[true, true, true, true, true, true, false, false, true, false, false, false] HT_ HW_ hHeld ?_ (hy := by rintro w' ⟨s0, s1, s2⟩; go_simp; with_reducible rfl)
       refine pT_ 6 (some 80) #[true, true, true, true, true, true, true, false, true, false, false, false] HT_ ?_
       refine tT_ 7 (some 81) #[true, true, true, true, true, true, true, true, true, false, false, false] HT_ HW_ hHeld ?_ (hy := by rintro w' ⟨s0, s1, s2⟩; go_simp; with_reducible rfl)
       refine pT_ 9 (some 83) #[true, true, true, true, true, true, true, true, true, true, false, false] HT_ ?_
       refine pT_ 10 (some 84) #[true, true, true, true, true, true, true, true, true, true, true, false] HT_ ?_
       refine last_ (i := 11) (N := none) #[true, true, true, true, true, true, true, true, true, true, true, true] rfl rfl (one_of HT_.out (by kernel_rfl)) (by decide) (fun K hK => ?_)
       refine skip_ (w1 := ?_) (by rfl) rfl ?_ ?_
       rotate_left
       ·go_simp
        rfl
       refine hK.out _ _ ?_
       clear hK K
       refine done_ (done_of HT_.out (by kernel_rfl)) ?_
       try go_wp2
       have n0_ : Aside0 (Kd.R (Kd.int .i64) 2 (w57.setCell ⟨go33, (x7_1 : Int).toNat, none⟩ (.int .i64 (wrap64 ((rd x131000_1 x7_1) - (wrap64 (Int.tdiv (wrap64 ((rd l0_0 x7_1) * (wrap64 (-(rd l1 x7_1))))) 256)))))) w.heap.size (fun k_ => some k_ ≠ (u131001 : Value).ownBlock) (.slice (some ⟨go33, 0, none⟩) x131000_1.length co58) y138) := ⟨by (with_reducible repeat (first | apply Kd.R_alloc | apply Kd.R_drewN | apply Kd.R_drew)); exact HQ59.out⟩
       have n1_ : Aside0 (Kd.R (Kd.int .i64) 2 (w57.setCell ⟨go33, (x7_1 : Int).toNat, none⟩ (.int .i64 (wrap64 ((rd x131000_1 x7_1) - (wrap64 (Int.tdiv (wrap64 ((rd l0_0 x7_1) * (wrap64 (-(rd l1 x7_1))))) 256)))))) w.heap.size (fun k_ => some k_ ≠ (.slice (some ⟨go33, 0, none⟩) x131000_1.length co58 : Value).ownBlock) u131001 x131001_1) := ⟨by (with_reducible repeat (first | apply Kd.R_alloc | apply Kd.R_drewN | apply Kd.R_drew)); exact Kd.R_mono (Kd.R_far (p := ⟨go33, (x7_1 : Int).toNat, none⟩) (Kd.R_mono HO_131001.out (fun k_ hk => (⟨hk, fun e_ => hk (by rw [e_]; rfl)⟩ : _ ∧ k_ ≠ go33))) (fun _ hk => hk.2) (.int .i64 (wrap64 ((rd x131000_1 x7_1) - (wrap64 (Int.tdiv (wrap64 ((rd l0_0 x7_1) * (wrap64 (-(rd l1 x7_1))))) 256)))))) (fun _ hk => hk.1)⟩
       have n2_ : Aside0 ((w57.setCell ⟨go33, (x7_1 : Int).toNat, none⟩ (.int .i64 (wrap64 ((rd x131000_1 x7_1) - (wrap64 (Int.tdiv (wrap64 ((rd l0_0 x7_1) * (wrap64 (-(rd l1 x7_1))))) 256)))))).heap[gb116]? = some (.cells #[.slice (some ad131) l0_0.length c0_0, .slice (some ad132) l0_1.length c0_1] 26 (0, 0))) := ⟨by (with_reducible repeat (first | refine blk_drewN ?_ _ | refine blk_drew ?_ | refine blk_alloc ?_ _)); refine blk_far ?_ (by have h_ := Kd.R_ne HO_131000.out BK116.out (by decide); intro e_; exact h_ (by rw [e_]; rfl)) _; exact bT_ BK116⟩
       have n3_ : Aside0 ((w57.setCell ⟨go33, (x7_1 : Int).toNat, none⟩ (.int .i64 (wrap64 ((rd x131000_1 x7_1) - (wrap64 (Int.tdiv (wrap64 ((rd l0_0 x7_1) * (wrap64 (-(rd l1 x7_1))))) 256)))))).heap[gb117]? = some (.cells #[.slice none 0 0, .slice none 0 0] 26 (0, 0))) := ⟨by (with_reducible repeat (first | refine blk_drewN ?_ _ | refine blk_drew ?_ | refine blk_alloc ?_ _)); refine blk_far ?_ (by have h_ := Kd.R_ne HO_131000.out BK117.out (by decide); intro e_; exact h_ (by rw [e_]; rfl)) _; exact bT_ BK117⟩
       have n4_ : Aside0 ((w57.setCell ⟨go33, (x7_1 : Int).toNat, none⟩ (.int .i64 (wrap64 ((rd x131000_1 x7_1) - (wrap64 (Int.tdiv (wrap64 ((rd l0_0 x7_1) * (wrap64 (-(rd l1 x7_1))))) 256)))))).heap[gb130]? = some (.cells #[.slice (some ⟨go33, 0, none⟩) x131000_1.length co58, u131001] 26 (0, 0))) := ⟨by (with_reducible repeat (first | refine blk_drewN ?_ _ | refine blk_drew ?_ | refine blk_alloc ?_ _)); refine blk_far ?_ (by have h_ := Kd.R_ne HO_131000.out BK130.out (by decide); intro e_; exact h_ (by rw [e_]; rfl)) _; exact bT_ BK130⟩
       have n5_ : Aside0 (Below w.heap.size w (w57.setCell ⟨go33, (x7_1 : Int).toNat, none⟩ (.int .i64 (wrap64 ((rd x131000_1 x7_1) - (wrap64 (Int.tdiv (wrap64 ((rd l0_0 x7_1) * (wrap64 (-(rd l1 x7_1))))) 256))))))) := ⟨by repeat (first | (with_reducible first | exact HB.out | apply below_alloc | apply pw_below_drewN | apply below_drew1 | refine below_set ?_ GB33.out | refine below_set ?_ GE116.out | refine below_set ?_ GE117.out | refine below_set ?_ GE130.out) | exact HB.out)⟩
       (try clear HO_131000); (try clear HO_131001); (try clear BK116); (try clear BK117); (try clear BK130); (try clear HB)
       generalize (w57.setCell ⟨go33, (x7_1 : Int).toNat, none⟩ (.int .i64 (wrap64 ((rd x131000_1 x7_1) - (wrap64 (Int.tdiv (wrap64 ((rd l0_0 x7_1) * (wrap64 (-(rd l1 x7_1))))) 256)))))) = w60 at n0_ n1_ n2_ n3_ n4_ n5_ ⊢
       have HO_131000 := n0_; have HO_131001 := n1_; have BK116 := n2_; have BK117 := n3_; have BK130 := n4_; have HB := n5_; clear n0_ n1_ n2_ n3_ n4_ n5_
       replace HO_131000 := Aside0.mk (Kd.R_drew HO_131000.out)
       replace HO_131001 := Aside0.mk (Kd.R_drew HO_131001.out)
       replace BK116 := Aside0.mk (blk_drew BK116.out)
       replace BK117 := Aside0.mk (blk_drew BK117.out)
       replace BK130 := Aside0.mk (blk_drew BK130.out)
       replace HB := Aside0.mk (below_drew1 HB.out)
       have p139 : 0 ≤ ((ji34) : Int) := of_decide_eq_true (by first | (with_reducible assumption) | assumption)
       have q139 : (ji34) < (y138.length : Int) := (by have h_ : ((ji34) : Int) < ((x131000_1.length : Int) : Int) := of_decide_eq_true (by first | (with_reducible assumption) | assumption); first | (have e_ := (Kd.R_reads' HO_131000.out).1; omega) | simpa only [Ny138.out, List.length_set] using h_)
       have ql139 : (((ji34) : Int) < ((x131000_1.length : Int) : Int)) = True := eq_true (of_decide_eq_true (by first | (with_reducible assumption) | assumption))
       obtain ⟨ad139, e139, hx139_0⟩ := Kd.at_int (Kd.R_reads' HO_131000.out).2.2 (ji34) p139 q139
       obtain rfl : (⟨go33, 0, none⟩ : Addr) = ad139 := (by injection e139)
       (first | simp only [add_plain] at hx139_0 | simp only [add_at] at hx139_0 | simp only [Addr.add, Nat.zero_add] at hx139_0 | skip)
       replace p139 := eq_true p139; replace q139 := eq_true q139
       have p37 : 0 ≤ ((ji34) : Int) := of_decide_eq_true (by first | (with_reducible assumption) | assumption)
       have q37 : ((ji34) : Int) < ((x131000_1.length : Int) : Int) := of_decide_eq_true (by first | (with_reducible assumption) | assumption)
       obtain ⟨hx37_0, hf37_0⟩ := Kd.R_celln 0 HO_131000.out ((ji34) : Int) p37 q37
       replace p37 := eq_true p37; replace q37 := eq_true q37
       have HP62 := Kd.R_putn HO_131000.out ((ji34) : Int) (wrap64 ((rd y138 (ji34)) + (wrap64 (Int.tdiv (wrap64 ((rd l0_0 x7_1) * (wrap64 (-(rd l1 x7_1))))) 256))))
       rw [← Ny140.out] at HP62
       have HQ62 := Aside0.mk HP62; clear HP62
       refine start_ (n := 12) (S := fun w' => w'.cell? ⟨gb130, 0, none⟩ = some (.slice (some ⟨go33, 0, none⟩) x131000_1.length co58) ∧ w'.cell? ⟨gb130, 1, none⟩ = some (u131001) ∧ w'.cell? ⟨go33, ((ji34)).toNat, none⟩ = some (.int .i64 (rd y138 (ji34)))) (ds := [11]) #[false, false, false, false, false, false, false, false, false, false, false, false] (by kernel_rfl) rfl rfl ⟨(blk_cell BK130.out 0).trans rfl, (blk_cell BK130.out 1).trans rfl, hx139_0⟩ (fun hHeld => ?_); refine with_tabW spec_l17Step.tab14 spec_l17Step.bits14 (fun HT_ HW_ => ?_)
       generalize w60.drew = w61 at HO_131000 HO_131001 BK116 BK117 BK130 HB HQ59 HQ62 hf37_0 hx139_0 hx37_0 hHeld ⊢
       refine pT_ 0 (some 85) #[true, false, false, false, false, false, false, false, false, false, false, false] HT_ ?_
       refine pT_ 2 (some 87) #[true, false, true, false, false, false, false, false, false, false, false, false] HT_ ?_
       refine pT_ 3 (some 88) #[true, false, true, true, false, false, false, false, false, false, false, false] HT_ ?_
       refine pT_ 5 (some 90) #[true, false, true, true, false, true, false, false, false, false, false, false] HT_ ?_
       refine pT_ 8 (some 93) #[true, false, true, true, false, true, false, false, true, false, false, false] HT_ ?_
       refine tT_ 1 (some 86) #[true, true, true, true, false, true, false, false, true, false, false, false] HT_ HW_ hHeld ?_ (hy := by rintro w' ⟨s0, s1, s2⟩; go_simp; with_reducible rfl)
       refine tT_ 4 (some 89) #[true, true, true, true, true, true, false, false, true, false, false, false] HT_ HW_ hHeld ?_ (hy := by rintro w' ⟨s0, s1, s2⟩; go_simp; with_reducible rfl)
       refine pT_ 6 (some 91) #[true, true, true, true, true, true, true, false, true, false, false, false] HT_ ?_
       refine tT_ 7 (some 92) #[true, true, true, true, true, true, true, true, true, false, false, false] HT_ HW_ hHeld ?_ (hy := by rintro w' ⟨s0, s1, s2⟩; go_simp; with_reducible rfl)
       refine pT_ 9 (some 94) #[true, true, true, true, true, true, true, true, true, true, false, false] HT_ ?_
       refine pT_ 10 (some 95) #[true, true, true, true, true, true, true, true, true, true, true, false] HT_ ?_
       refine last_ (i := 11) (N := none) #[true, true, true, true, true, true, true, true, true, true, true, true] rfl rfl (one_of HT_.out (by kernel_rfl)) (by decide) (fun K hK => ?_)
       refine skip_ (w1 := ?_) (by rfl) rfl ?_ ?_
       rotate_left
       ·go_simp
        rfl
       refine hK.out _ _ ?_
       clear hK K
       refine done_ (done_of HT_.out (by kernel_rfl)) ?_
       try go_wp2
       have n0_ : Aside0 (Kd.R (Kd.int .i64) 2 (w61.setCell ⟨go33, ((ji34) : Int).toNat, none⟩ (.int .i64 (wrap64 ((rd y138 (ji34)) + (wrap64 (Int.tdiv (wrap64 ((rd l0_0 x7_1) * (wrap64 (-(rd l1 x7_1))))) 256)))))) w.heap.size (fun k_ => some k_ ≠ (u131001 : Value).ownBlock) (.slice (some ⟨go33, 0, none⟩) x131000_1.length co58) y140) := ⟨by (with_reducible repeat (first | apply Kd.R_alloc | apply Kd.R_drewN | apply Kd.R_drew)); exact HQ62.out⟩
       have n1_ : Aside0 (Kd.R (Kd.int .i64) 2 (w61.setCell ⟨go33, ((ji34) : Int).toNat, none⟩ (.int .i64 (wrap64 ((rd y138 (ji34)) + (wrap64 (Int.tdiv (wrap64 ((rd l0_0 x7_1) * (wrap64 (-(rd l1 x7_1))))) 256)))))) w.heap.size (fun k_ => some k_ ≠ (.slice (some ⟨go33, 0, none⟩) x131000_1.length co58 : Value).ownBlock) u131001 x131001_1) := ⟨by (with_reducible repeat (first | apply Kd.R_alloc | apply Kd.R_drewN | apply Kd.R_drew)); exact Kd.R_mono (Kd.R_far (p := ⟨go33, ((ji34) : Int).toNat, none⟩) (Kd.R_mono HO_131001.out (fun k_ hk => (⟨hk, fun e_ => hk (by rw [e_]; rfl)⟩ : _ ∧ k_ ≠ go33))) (fun _ hk => hk.2) (.int .i64 (wrap64 ((rd y138 (ji34)) + (wrap64 (Int.tdiv (wrap64 ((rd l0_0 x7_1) * (wrap64 (-(rd l1 x7_1))))) 256)))))) (fun _ hk => hk.1)⟩
       have n2_ : Aside0 ((w61.setCell ⟨go33, ((ji34) : Int).toNat, none⟩ (.int .i64 (wrap64 ((rd y138 (ji34)) + (wrap64 (Int.tdiv (wrap64 ((rd l0_0 x7_1) * (wrap64 (-(rd l1 x7_1))))) 256)))))).heap[gb116]? = some (.cells #[.slice (some ad131) l0_0.length c0_0, .slice (some ad132) l0_1.length c0_1] 26 (0, 0))) := ⟨by (with_reducible repeat (first | refine blk_drewN ?_ _ | refine blk_drew ?_ | refine blk_alloc ?_ _)); refine blk_far ?_ (by have h_ := Kd.R_ne HO_131000.out BK116.out (by decide); intro e_; exact h_ (by rw [e_]; rfl)) _; exact bT_ BK116⟩
       have n3_ : Aside0 ((w61.setCell ⟨go33, ((ji34) : Int).toNat, none⟩ (.int .i64 (wrap64 ((rd y138 (ji34)) + (wrap64 (Int.tdiv (wrap64 ((rd l0_0 x7_1) * (wrap64 (-(rd l1 x7_1))))) 256)))))).heap[gb117]? = some (.cells #[.slice none 0 0, .slice none 0 0] 26 (0, 0))) := ⟨by (with_reducible repeat (first | refine blk_drewN ?_ _ | refine blk_drew ?_ | refine blk_alloc ?_ _)); refine blk_far ?_ (by have h_ := Kd.R_ne HO_131000.out BK117.out (by decide); intro e_; exact h_ (by rw [e_]; rfl)) _; exact bT_ BK117⟩
       have n4_ : Aside0 ((w61.setCell ⟨go33, ((ji34) : Int).toNat, none⟩ (.int .i64 (wrap64 ((rd y138 (ji34)) + (wrap64 (Int.tdiv (wrap64 ((rd l0_0 x7_1) * (wrap64 (-(rd l1 x7_1))))) 256)))))).heap[gb130]? = some (.cells #[.slice (some ⟨go33, 0, none⟩) x131000_1.length co58, u131001] 26 (0, 0))) := ⟨by (with_reducible repeat (first | refine blk_drewN ?_ _ | refine blk_drew ?_ | refine blk_alloc ?_ _)); refine blk_far ?_ (by have h_ := Kd.R_ne HO_131000.out BK130.out (by decide); intro e_; exact h_ (by rw [e_]; rfl)) _; exact bT_ BK130⟩
       have n5_ : Aside0 (Below w.heap.size w (w61.setCell ⟨go33, ((ji34) : Int).toNat, none⟩ (.int .i64 (wrap64 ((rd y138 (ji34)) + (wrap64 (Int.tdiv (wrap64 ((rd l0_0 x7_1) * (wrap64 (-(rd l1 x7_1))))) 256))))))) := ⟨by repeat (first | (with_reducible first | exact HB.out | apply below_alloc | apply pw_below_drewN | apply below_drew1 | refine below_set ?_ GB33.out | refine below_set ?_ GE116.out | refine below_set ?_ GE117.out | refine below_set ?_ GE130.out) | exact HB.out)⟩
       (try clear HO_131000); (try clear HO_131001); (try clear BK116); (try clear BK117); (try clear BK130); (try clear HB)
       generalize (w61.setCell ⟨go33, ((ji34) : Int).toNat, none⟩ (.int .i64 (wrap64 ((rd y138 (ji34)) + (wrap64 (Int.tdiv (wrap64 ((rd l0_0 x7_1) * (wrap64 (-(rd l1 x7_1))))) 256)))))) = w63 at n0_ n1_ n2_ n3_ n4_ n5_ ⊢
       have HO_131000 := n0_; have HO_131001 := n1_; have BK116 := n2_; have BK117 := n3_; have BK130 := n4_; have HB := n5_; clear n0_ n1_ n2_ n3_ n4_ n5_
       replace HO_131000 := Aside0.mk (Kd.R_drew HO_131000.out)
       replace HO_131001 := Aside0.mk (Kd.R_drew HO_131001.out)
       replace BK116 := Aside0.mk (blk_drew BK116.out)
       replace BK117 := Aside0.mk (blk_drew BK117.out)
       replace BK130 := Aside0.mk (blk_drew BK130.out)
       replace HB := Aside0.mk (below_drew1 HB.out)
       obtain ⟨Ao65, co65, eo65⟩ := Kd.R_slice HO_131001.out
       (first | subst eo65 | (injection eo65 with f1_ f2_ f3_; have f4_ := f1_.symm; have f5_ := f3_.symm; clear f1_ f2_ f3_; subst f4_; subst f5_))
       have p141 : 0 ≤ (x7_1 : Int) := of_decide_eq_true (by first | (with_reducible assumption) | assumption)
       have q141 : x7_1 < (x131001_1.length : Int) := of_decide_eq_true (by first | (with_reducible assumption) | assumption)
       obtain ⟨ad141, e141, hx141_0⟩ := Kd.at_int (Kd.R_reads' HO_131001.out).2.2 x7_1 p141 q141
       cases e141
       replace p141 := eq_true p141; replace q141 := eq_true q141
       have p39 : 0 ≤ (x7_1 : Int) := of_decide_eq_true (by first | (with_reducible assumption) | assumption)
       have q39 : (x7_1 : Int) < ((x131001_1.length : Int) : Int) := of_decide_eq_true (by first | (with_reducible assumption) | assumption)
       obtain ⟨go39, co39, eo39, gb39, gl39, cl39, HG39⟩ := Kd.R_form HO_131001.out (by omega)
       (first | cases eo39 | (injection eo39 with ea_ en_ ec_; (first | subst ea_ | (injection ea_ with ea_; subst ea_)); subst ec_; clear en_))
       have GB39 := Aside0.mk gb39; have GG39 := Aside0.mk HG39; clear gb39 gl39 HG39
       (first | simp only [add_plain] at hx141_0 | skip)
       obtain ⟨hx39_0, hf39_0⟩ := Kd.R_celln 0 HO_131001.out (x7_1 : Int) p39 q39
       replace p39 := eq_true p39; replace q39 := eq_true q39
       have HP66 := Kd.R_putn HO_131001.out (x7_1 : Int) (wrap64 ((rd x131001_1 x7_1) - t136))
       rw [← Ny142.out] at HP66
       have HQ66 := Aside0.mk HP66; clear HP66
       refine start_ (n := 12) (S := fun w' => w'.cell? ⟨gb130, 0, none⟩ = some (.slice (some ⟨go33, 0, none⟩) x131000_1.length co58) ∧ w'.cell? ⟨gb130, 1, none⟩ = some (.slice (some ⟨go39, 0, none⟩) x131001_1.length co65) ∧ w'.cell? ⟨go39, (x7_1).toNat, none⟩ = some (.int .i64 (rd x131001_1 x7_1))) (ds := [11]) #[false, false, false, false, false, false, false, false, false, false, false, false] (by kernel_rfl) rfl rfl ⟨(blk_cell BK130.out 0).trans rfl, (blk_cell BK130.out 1).trans rfl, hx141_0⟩ (fun hHeld => ?_); refine with_tabW spec_l17Step.tab15 spec_l17Step.bits15 (fun HT_ HW_ => ?_)
       generalize w63.drew = w64 at HO_131000 HO_131001 BK116 BK117 BK130 HB GG39 HQ62 HQ66 hf39_0 hx141_0 hx39_0 hHeld ⊢
       refine pT_ 0 (some 96) #[true, false, false, false, false, false, false, false, false, false, false, false] HT_ ?_
       refine pT_ 2 (some 98) #[true, false, true, false, false, false, false, false, false, false, false, false] HT_ ?_
       refine pT_ 3 (some 99) #[true, false, true, true, false, false, false, false, false, false, false, false] HT_ ?_
       refine pT_ 5 (some 101) #[true, false, true, true, false, true, false, false, false, false, false, false] HT_ ?_
       refine pT_ 8 (some 104) #[true, false, true, true, false, true, false, false, true, false, false, false] HT_ ?_
       refine tT_ 1 (some 97) #[true, true, true, true, false, true, false, false, true, false, false, false] HT_ HW_ hHeld ?_ (hy := by rintro w' ⟨s0, s1, s2⟩; go_simp; with_reducible rfl)
       refine tT_ 4 (some 100) #[true, true, true, true, true, true, false, false, true, false, false, false] HT_ HW_ hHeld ?_ (hy := by rintro w' ⟨s0, s1, s2⟩; go_simp; with_reducible rfl)
       refine pT_ 6 (some 102) #[true, true, true, true, true, true, true, false, true, false, false, false] HT_ ?_
       refine tT_ 7 (some 103) #[true, true, true, true, true, true, true, true, true, false, false, false] HT_ HW_ hHeld ?_ (hy := by rintro w' ⟨s0, s1, s2⟩; go_simp; with_reducible rfl)
       refine pT_ 9 (some 105) #[true, true, true, true, true, true, true, true, true, true, false, false] HT_ ?_
       refine pT_ 10 (some 106) #[true, true, true, true, true, true, true, true, true, true, true, false] HT_ ?_
       refine last_ (i := 11) (N := none) #[true, true, true, true, true, true, true, true, true, true, true, true] rfl rfl (one_of HT_.out (by kernel_rfl)) (by decide) (fun K hK => ?_)
       refine skip_ (w1 := ?_) (by rfl) rfl ?_ ?_
       rotate_left
       ·go_simp
        rfl
       refine hK.out _ _ ?_
       clear hK K
       refine done_ (done_of HT_.out (by kernel_rfl)) ?_
       try go_wp2
       have n0_ : Aside0 (Kd.R (Kd.int .i64) 2 (w64.setCell ⟨go39, (x7_1 : Int).toNat, none⟩ (.int .i64 (wrap64 ((rd x131001_1 x7_1) - t136)))) w.heap.size (fun k_ => some k_ ≠ (.slice (some ⟨go39, 0, none⟩) x131001_1.length co65 : Value).ownBlock) (.slice (some ⟨go33, 0, none⟩) x131000_1.length co58) y140) := ⟨by (with_reducible repeat (first | apply Kd.R_alloc | apply Kd.R_drewN | apply Kd.R_drew)); exact Kd.R_mono (Kd.R_far (p := ⟨go39, (x7_1 : Int).toNat, none⟩) (Kd.R_mono HO_131000.out (fun k_ hk => (⟨hk, fun e_ => hk (by rw [e_]; rfl)⟩ : _ ∧ k_ ≠ go39))) (fun _ hk => hk.2) (.int .i64 (wrap64 ((rd x131001_1 x7_1) - t136)))) (fun _ hk => hk.1)⟩
       have n1_ : Aside0 (Kd.R (Kd.int .i64) 2 (w64.setCell ⟨go39, (x7_1 : Int).toNat, none⟩ (.int .i64 (wrap64 ((rd x131001_1 x7_1) - t136)))) w.heap.size (fun k_ => some k_ ≠ (.slice (some ⟨go33, 0, none⟩) x131000_1.length co58 : Value).ownBlock) (.slice (some ⟨go39, 0, none⟩) x131001_1.length co65) y142) := ⟨by (with_reducible repeat (first | apply Kd.R_alloc | apply Kd.R_drewN | apply Kd.R_drew)); exact HQ66.out⟩
       have n2_ : Aside0 ((w64.setCell ⟨go39, (x7_1 : Int).toNat, none⟩ (.int .i64 (wrap64 ((rd x131001_1 x7_1) - t136)))).heap[gb116]? = some (.cells #[.slice (some ad131) l0_0.length c0_0, .slice (some ad132) l0_1.length c0_1] 26 (0, 0))) := ⟨by (with_reducible repeat (first | refine blk_drewN ?_ _ | refine blk_drew ?_ | refine blk_alloc ?_ _)); refine blk_far ?_ (by have h_ := Kd.R_ne HO_131001.out BK116.out (by decide); intro e_; exact h_ (by rw [e_]; rfl)) _; exact bT_ BK116⟩
       have n3_ : Aside0 ((w64.setCell ⟨go39, (x7_1 : Int).toNat, none⟩ (.int .i64 (wrap64 ((rd x131001_1 x7_1) - t136)))).heap[gb117]? = some (.cells #[.slice none 0 0, .slice none 0 0] 26 (0, 0))) := ⟨by (with_reducible repeat (first | refine blk_drewN ?_ _ | refine blk_drew ?_ | refine blk_alloc ?_ _)); refine blk_far ?_ (by have h_ := Kd.R_ne HO_131001.out BK117.out (by decide); intro e_; exact h_ (by rw [e_]; rfl)) _; exact bT_ BK117⟩
       have n4_ : Aside0 ((w64.setCell ⟨go39, (x7_1 : Int).toNat, none⟩ (.int .i64 (wrap64 ((rd x131001_1 x7_1) - t136)))).heap[gb130]? = some (.cells #[.slice (some ⟨go33, 0, none⟩) x131000_1.length co58, .slice (some ⟨go39, 0, none⟩) x131001_1.length co65] 26 (0, 0))) := ⟨by (with_reducible repeat (first | refine blk_drewN ?_ _ | refine blk_drew ?_ | refine blk_alloc ?_ _)); refine blk_far ?_ (by have h_ := Kd.R_ne HO_131001.out BK130.out (by decide); intro e_; exact h_ (by rw [e_]; rfl)) _; exact bT_ BK130⟩
       have n5_ : Aside0 (Below w.heap.size w (w64.setCell ⟨go39, (x7_1 : Int).toNat, none⟩ (.int .i64 (wrap64 ((rd x131001_1 x7_1) - t136))))) := ⟨by repeat (first | (with_reducible first | exact HB.out | apply below_alloc | apply pw_below_drewN | apply below_drew1 | refine below_set ?_ GB39.out | refine below_set ?_ GE116.out | refine below_set ?_ GE117.out | refine below_set ?_ GE130.out) | exact HB.out)⟩
       (try clear HO_131000); (try clear HO_131001); (try clear BK116); (try clear BK117); (try clear BK130); (try clear HB)
       generalize (w64.setCell ⟨go39, (x7_1 : Int).toNat, none⟩ (.int .i64 (wrap64 ((rd x131001_1 x7_1) - t136)))) = w67 at n0_ n1_ n2_ n3_ n4_ n5_ ⊢
       have HO_131000 := n0_; have HO_131001 := n1_; have BK116 := n2_; have BK117 := n3_; have BK130 := n4_; have HB := n5_; clear n0_ n1_ n2_ n3_ n4_ n5_
       replace HO_131000 := Aside0.mk (Kd.R_drew HO_131000.out)
       replace HO_131001 := Aside0.mk (Kd.R_drew HO_131001.out)
       replace BK116 := Aside0.mk (blk_drew BK116.out)
       replace BK117 := Aside0.mk (blk_drew BK117.out)
       replace BK130 := Aside0.mk (blk_drew BK130.out)
       replace HB := Aside0.mk (below_drew1 HB.out)
       have p143 : 0 ≤ ((ji34) : Int) := of_decide_eq_true (by first | (with_reducible assumption) | assumption)
       have q143 : (ji34) < (y142.length : Int) := (by have h_ : ((ji34) : Int) < ((x131001_1.length : Int) : Int) := of_decide_eq_true (by first | (with_reducible assumption) | assumption); first | (have e_ := (Kd.R_reads' HO_131001.out).1; omega) | simpa only [Ny142.out, List.length_set] using h_)
       have ql143 : (((ji34) : Int) < ((x131001_1.length : Int) : Int)) = True := eq_true (of_decide_eq_true (by first | (with_reducible assumption) | assumption))
       obtain ⟨ad143, e143, hx143_0⟩ := Kd.at_int (Kd.R_reads' HO_131001.out).2.2 (ji34) p143 q143
       obtain rfl : (⟨go39, 0, none⟩ : Addr) = ad143 := (by injection e143)
       (first | simp only [add_plain] at hx143_0 | simp only [add_at] at hx143_0 | simp only [Addr.add, Nat.zero_add] at hx143_0 | skip)
       replace p143 := eq_true p143; replace q143 := eq_true q143
       have p41 : 0 ≤ ((ji34) : Int) := of_decide_eq_true (by first | (with_reducible assumption) | assumption)
       have q41 : ((ji34) : Int) < ((x131001_1.length : Int) : Int) := of_decide_eq_true (by first | (with_reducible assumption) | assumption)
       obtain ⟨hx41_0, hf41_0⟩ := Kd.R_celln 0 HO_131001.out ((ji34) : Int) p41 q41
       replace p41 := eq_true p41; replace q41 := eq_true q41
       have HP69 := Kd.R_putn HO_131001.out ((ji34) : Int) (wrap64 ((rd y142 (ji34)) + t136))
       rw [← Ny144.out] at HP69
       have HQ69 := Aside0.mk HP69; clear HP69
       refine start_ (n := 12) (S := fun w' => w'.cell? ⟨gb130, 0, none⟩ = some (.slice (some ⟨go33, 0, none⟩) x131000_1.length co58) ∧ w'.cell? ⟨gb130, 1, none⟩ = some (.slice (some ⟨go39, 0, none⟩) x131001_1.length co65) ∧ w'.cell? ⟨go39, ((ji34)).toNat, none⟩ = some (.int .i64 (rd y142 (ji34)))) (ds := [11]) #[false, false, false, false, false, false, false, false, false, false, false, false] (by kernel_rfl) rfl rfl ⟨(blk_cell BK130.out 0).trans rfl, (blk_cell BK130.out 1).trans rfl, hx143_0⟩ (fun hHeld => ?_); refine with_tabW spec_l17Step.tab16 spec_l17Step.bits16 (fun HT_ HW_ => ?_)
       generalize w67.drew = w68 at HO_131000 HO_131001 BK116 BK117 BK130 HB HQ66 HQ69 hf41_0 hx143_0 hx41_0 hHeld ⊢
       refine pT_ 0 (some 107) #[true, false, false, false, false, false, false, false, false, false, false, false] HT_ ?_
       refine pT_ 2 (some 109) #[true, false, true, false, false, false, false, false, false, false, false, false] HT_ ?_
       refine pT_ 3 (some 110) #[true, false, true, true, false, false, false, false, false, false, false, false] HT_ ?_
       refine pT_ 5 (some 112) #[true, false, true, true, false, true, false, false, false, false, false, false] HT_ ?_
       refine pT_ 8 (some 115) #[true, false, true, true, false, true, false, false, true, false, false, false] HT_ ?_
       refine tT_ 1 (some 108) #[true, true, true, true, false, true, false, false, true, false, false, false] HT_ HW_ hHeld ?_ (hy := by rintro w' ⟨s0, s1, s2⟩; go_simp; with_reducible rfl)
       refine tT_ 4 (some 111) #[true, true, true, true, true, true, false, false, true, false, false, false] HT_ HW_ hHeld ?_ (hy := by rintro w' ⟨s0, s1, s2⟩; go_simp; with_reducible rfl)
       refine pT_ 6 (some 113) #[true, true, true, true, true, true, true, false, true, false, false, false] HT_ ?_
       refine tT_ 7 (some 114) #[true, true, true, true, true, true, true, true, true, false, false, false] HT_ HW_ hHeld ?_ (hy := by rintro w' ⟨s0, s1, s2⟩; go_simp; with_reducible rfl)
       refine pT_ 9 (some 116) #[true, true, true, true, true, true, true, true, true, true, false, false] HT_ ?_
       refine pT_ 10 (some 117) #[true, true, true, true, true, true, true, true, true, true, true, false] HT_ ?_
       refine last_ (i := 11) (N := none) #[true, true, true, true, true, true, true, true, true, true, true, true] rfl rfl (one_of HT_.out (by kernel_rfl)) (by decide) (fun K hK => ?_)
       refine skip_ (w1 := ?_) (by rfl) rfl ?_ ?_
       rotate_left
       ·go_simp
        rfl
       refine hK.out _ _ ?_
       clear hK K
       refine done_ (done_of HT_.out (by kernel_rfl)) ?_
       have p145 : 0 ≤ ((ji42) : Int) := of_decide_eq_true (by first | (with_reducible assumption) | assumption)
       have q145 : (ji42) < (l1.length : Int) := of_decide_eq_true (by first | (with_reducible assumption) | assumption)
       obtain ⟨ad145, e145, hx145_0⟩ := Kd.at_int HR1.out (ji42) p145 q145
       obtain rfl : ad133 = ad145 := (by injection e145)
       have hn145_0 : ad133.block ≠ go39 := Nat.ne_of_lt (Nat.lt_of_lt_of_le (by have := World.block_lt_of_cell? _ _ hx145_0; first | rwa [add_block] at this | exact this) GB39.out)
       replace hx145_0 := (HB.out.cell (World.block_lt_of_cell? w _ hx145_0)).trans hx145_0
       replace hx145_0 := (cell_far (p := ⟨go39, ((ji34) : Int).toNat, none⟩) (by first | (rw [add_block]; exact hn145_0) | (show (Addr.add _ _).block ≠ _; rw [add_block]; exact hn145_0) | exact hn145_0) (.int .i64 (wrap64 ((rd y142 (ji34)) + t136)))).trans hx145_0
       clear hn145_0; replace p145 := eq_true p145; replace q145 := eq_true q145
       try go_wp2
       have n0_ : Aside0 (Kd.R (Kd.int .i64) 2 (w68.setCell ⟨go39, ((ji34) : Int).toNat, none⟩ (.int .i64 (wrap64 ((rd y142 (ji34)) + t136)))) w.heap.size (fun k_ => some k_ ≠ (.slice (some ⟨go39, 0, none⟩) x131001_1.length co65 : Value).ownBlock) (.slice (some ⟨go33, 0, none⟩) x131000_1.length co58) y140) := ⟨by (with_reducible repeat (first | apply Kd.R_alloc | apply Kd.R_drewN | apply Kd.R_drew)); exact Kd.R_mono (Kd.R_far (p := ⟨go39, ((ji34) : Int).toNat, none⟩) (Kd.R_mono HO_131000.out (fun k_ hk => (⟨hk, fun e_ => hk (by rw [e_]; rfl)⟩ : _ ∧ k_ ≠ go39))) (fun _ hk => hk.2) (.int .i64 (wrap64 ((rd y142 (ji34)) + t136)))) (fun _ hk => hk.1)⟩
       have n1_ : Aside0 (Kd.R (Kd.int .i64) 2 (w68.setCell ⟨go39, ((ji34) : Int).toNat, none⟩ (.int .i64 (wrap64 ((rd y142 (ji34)) + t136)))) w.heap.size (fun k_ => some k_ ≠ (.slice (some ⟨go33, 0, none⟩) x131000_1.length co58 : Value).ownBlock) (.slice (some ⟨go39, 0, none⟩) x131001_1.length co65) y144) := ⟨by (with_reducible repeat (first | apply Kd.R_alloc | apply Kd.R_drewN | apply Kd.R_drew)); exact HQ69.out⟩
       have n2_ : Aside0 ((w68.setCell ⟨go39, ((ji34) : Int).toNat, none⟩ (.int .i64 (wrap64 ((rd y142 (ji34)) + t136)))).heap[gb116]? = some (.cells #[.slice (some ad131) l0_0.length c0_0, .slice (some ad132) l0_1.length c0_1] 26 (0, 0))) := ⟨by (with_reducible repeat (first | refine blk_drewN ?_ _ | refine blk_drew ?_ | refine blk_alloc ?_ _)); refine blk_far ?_ (by have h_ := Kd.R_ne HO_131001.out BK116.out (by decide); intro e_; exact h_ (by rw [e_]; rfl)) _; exact bT_ BK116⟩
       have n3_ : Aside0 ((w68.setCell ⟨go39, ((ji34) : Int).toNat, none⟩ (.int .i64 (wrap64 ((rd y142 (ji34)) + t136)))).heap[gb117]? = some (.cells #[.slice none 0 0, .slice none 0 0] 26 (0, 0))) := ⟨by (with_reducible repeat (first | refine blk_drewN ?_ _ | refine blk_drew ?_ | refine blk_alloc ?_ _)); refine blk_far ?_ (by have h_ := Kd.R_ne HO_131001.out BK117.out (by decide); intro e_; exact h_ (by rw [e_]; rfl)) _; exact bT_ BK117⟩
       have n4_ : Aside0 ((w68.setCell ⟨go39, ((ji34) : Int).toNat, none⟩ (.int .i64 (wrap64 ((rd y142 (ji34)) + t136)))).heap[gb130]? = some (.cells #[.slice (some ⟨go33, 0, none⟩) x131000_1.length co58, .slice (some ⟨go39, 0, none⟩) x131001_1.length co65] 26 (0, 0))) := ⟨by (with_reducible repeat (first | refine blk_drewN ?_ _ | refine blk_drew ?_ | refine blk_alloc ?_ _)); refine blk_far ?_ (by have h_ := Kd.R_ne HO_131001.out BK130.out (by decide); intro e_; exact h_ (by rw [e_]; rfl)) _; exact bT_ BK130⟩
       have n5_ : Aside0 (Below w.heap.size w (w68.setCell ⟨go39, ((ji34) : Int).toNat, none⟩ (.int .i64 (wrap64 ((rd y142 (ji34)) + t136))))) := ⟨by repeat (first | (with_reducible first | exact HB.out | apply below_alloc | apply pw_below_drewN | apply below_drew1 | refine below_set ?_ GB39.out | refine below_set ?_ GE116.out | refine below_set ?_ GE117.out | refine below_set ?_ GE130.out) | exact HB.out)⟩
       (try clear HO_131000); (try clear HO_131001); (try clear BK116); (try clear BK117); (try clear BK130); (try clear HB)
       generalize (w68.setCell ⟨go39, ((ji34) : Int).toNat, none⟩ (.int .i64 (wrap64 ((rd y142 (ji34)) + t136)))) = w70 at n0_ n1_ n2_ n3_ n4_ n5_ ⊢
       have HO_131000 := n0_; have HO_131001 := n1_; have BK116 := n2_; have BK117 := n3_; have BK130 := n4_; have HB := n5_; clear n0_ n1_ n2_ n3_ n4_ n5_
       replace HO_131000 := Aside0.mk (Kd.R_drew HO_131000.out)
       replace HO_131001 := Aside0.mk (Kd.R_drew HO_131001.out)
       replace BK116 := Aside0.mk (blk_drew BK116.out)
       replace BK117 := Aside0.mk (blk_drew BK117.out)
       replace BK130 := Aside0.mk (blk_drew BK130.out)
       replace HB := Aside0.mk (below_drew1 HB.out)
       have p146 : 0 ≤ (x7_1 : Int) := of_decide_eq_true (by first | (with_reducible assumption) | assumption)
       have q146 : x7_1 < (l0_0.length : Int) := of_decide_eq_true (by first | (with_reducible assumption) | assumption)
       obtain ⟨ad146, e146, hx146_0⟩ := Kd.at_int HR0_0.out x7_1 p146 q146
       have hw146_0 := hx146_0
       obtain rfl : ad131 = ad146 := (by injection e146)
       replace hx146_0 := (HB.out.cell (World.block_lt_of_cell? w _ hx146_0)).trans hx146_0
       replace p146 := eq_true p146; replace q146 := eq_true q146
       have p147 : 0 ≤ ((ji42) : Int) := of_decide_eq_true (by first | (with_reducible assumption) | assumption)
       have q147 : (ji42) < (l1.length : Int) := of_decide_eq_true (by first | (with_reducible assumption) | assumption)
       obtain ⟨ad147, e147, hx147_0⟩ := Kd.at_int HR1.out (ji42) p147 q147
       have hw147_0 := hx147_0
       obtain rfl : ad133 = ad147 := (by injection e147)
       replace hx147_0 := (HB.out.cell (World.block_lt_of_cell? w _ hx147_0)).trans hx147_0
       replace p147 := eq_true p147; replace q147 := eq_true q147
       refine start_ (n := 12) (S := fun w' => w'.cell? ⟨gb116, 0, none⟩ = some (.slice (some ad131) l0_0.length c0_0) ∧ w'.cell? ⟨gb116, 1, none⟩ = some (.slice (some ad132) l0_1.length c0_1) ∧ w'.cell? (ad131.add (x7_1).toNat) = some (.int .i64 (rd l0_0 x7_1)) ∧ w'.cell? (ad133.add ((ji42)).toNat) = some (.int .i64 (rd l1 (ji42)))) (ds := []) #[false, false, false, false, false, false, false, false, false, false, false, false] (by kernel_rfl) rfl rfl ⟨(blk_cell BK116.out 0).trans rfl, (blk_cell BK116.out 1).trans rfl, ((HB.out.cell (World.block_lt_of_cell? w _ hw146_0)).trans hw146_0), ((HB.out.cell (World.block_lt_of_cell? w _ hw147_0)).trans hw147_0)⟩ (fun hHeld => ?_); refine with_tabW spec_l17Step.tab20 spec_l17Step.bits20 (fun HT_ HW_ => ?_)
       generalize w70.drew = w71 at HO_131000 HO_131001 BK116 BK117 BK130 HB HQ69 hx146_0 hx147_0 hHeld ⊢
       refine pT_ 0 (some 129) #[true, false, false, false, false, false, false, false, false, false, false, false] HT_ ?_
       refine pT_ 2 (some 131) #[true, false, true, false, false, false, false, false, false, false, false, false] HT_ ?_
       refine pT_ 5 (some 134) #[true, false, true, false, false, true, false, false, false, false, false, false] HT_ ?_
       refine pT_ 6 (some 135) #[true, false, true, false, false, true, true, false, false, false, false, false] HT_ ?_
       refine pT_ 7 (some 136) #[true, false, true, false, false, true, true, true, false, false, false, false] HT_ ?_
       refine tT_ 1 (some 130) #[true, true, true, false, false, true, true, true, false, false, false, false] HT_ HW_ hHeld ?_ (hy := by rintro w' ⟨s0, s1, s2, s3⟩; go_simp; with_reducible rfl)
       refine pT_ 3 (some 132) #[true, true, true, true, false, true, true, true, false, false, false, false] HT_ ?_
       refine tT_ 4 (some 133) #[true, true, true, true, true, true, true, true, false, false, false, false] HT_ HW_ hHeld ?_ (hy := by rintro w' ⟨s0, s1, s2, s3⟩; go_simp; with_reducible rfl)
       refine tT_ 8 (some 137) #[true, true, true, true, true, true, true, true, true, false, false, false] HT_ HW_ hHeld ?_ (hy := by rintro w' ⟨s0, s1, s2, s3⟩; go_simp; with_reducible rfl)
       refine pT_ 9 (some 138) #[true, true, true, true, true, true, true, true, true, true, false, false] HT_ ?_
       refine pT_ 10 (some 139) #[true, true, true, true, true, true, true, true, true, true, true, false] HT_ ?_
       refine pT_ 11 (some 14) #[true, true, true, true, true, true, true, true, true, true, true, true] HT_ ?_
       refine done_ (done_of HT_.out (by kernel_rfl)) ?_
       try go_wp2_with (first | ((with_reducible refine gate_callee (f := 39) rfl ?_); refine goesL_ (some 143) rfl rfl Try.func39 (by kernel_rfl) rfl #[.int .i64 (wrap64 ((rd l0_1 x7_1) - t136)), .int .i64 (wrap64 (Int.tdiv (wrap64 ((rd l0_0 x7_1) * (rd l1 (ji42)))) 256)), .int .i64 (wrap64 ((rd l0_0 x7_1) - (wrap64 (Int.tdiv (wrap64 ((rd l0_0 x7_1) * (wrap64 (-(rd l1 x7_1))))) 256))))] rfl (by (try simp only [List.map_toArray, List.map_cons, List.map_nil]); first | done | (simp only [hji42]; rfl) | rfl | (simp only [List.length_drop, List.length_take]; rfl)) ?_; (with_reducible refine (spec_l17Part.calls (wrap64 ((rd l0_1 x7_1) - t136)) (wrap64 (Int.tdiv (wrap64 ((rd l0_0 x7_1) * (rd l1 (ji42)))) 256)) (wrap64 ((rd l0_0 x7_1) - (wrap64 (Int.tdiv (wrap64 ((rd l0_0 x7_1) * (wrap64 (-(rd l1 x7_1))))) 256)))) t148 _ A46.out).mono ?_); rintro e w' ⟨rfl, ⟨nd, rfl⟩⟩; refine ⟨_, rfl, ?_⟩; (try (rw [drewN_self w71]; generalize hq_ : World.drewN w71 _ = w71; have n0_ : Aside0 (Kd.R (Kd.int .i64) 2 w71 w.heap.size (fun k_ => some k_ ≠ (.slice (some ⟨go39, 0, none⟩) x131001_1.length co65 : Value).ownBlock) (.slice (some ⟨go33, 0, none⟩) x131000_1.length co58) y140) := ⟨by rw [← hq_]; exact (rT_ HO_131000)⟩; have n1_ : Aside0 (Kd.R (Kd.int .i64) 2 w71 w.heap.size (fun k_ => some k_ ≠ (.slice (some ⟨go33, 0, none⟩) x131000_1.length co58 : Value).ownBlock) (.slice (some ⟨go39, 0, none⟩) x131001_1.length co65) y144) := ⟨by rw [← hq_]; exact (rT_ HO_131001)⟩; have n2_ : Aside0 (w71.heap[gb116]? = some (.cells #[.slice (some ad131) l0_0.length c0_0, .slice (some ad132) l0_1.length c0_1] 26 (0, 0))) := ⟨by rw [← hq_]; exact (bT_ BK116)⟩; have n3_ : Aside0 (w71.heap[gb117]? = some (.cells #[.slice none 0 0, .slice none 0 0] 26 (0, 0))) := ⟨by rw [← hq_]; exact (bT_ BK117)⟩; have n4_ : Aside0 (w71.heap[gb130]? = some (.cells #[.slice (some ⟨go33, 0, none⟩) x131000_1.length co58, .slice (some ⟨go39, 0, none⟩) x131001_1.length co65] 26 (0, 0))) := ⟨by rw [← hq_]; exact (bT_ BK130)⟩; have n5_ : Aside0 (Below w.heap.size w w71) := ⟨by rw [← hq_]; exact (by repeat (first | (with_reducible first | exact HB.out | apply below_alloc | apply pw_below_drewN | apply below_drew1 | refine below_set ?_ GE116.out | refine below_set ?_ GE117.out | refine below_set ?_ GE130.out) | exact HB.out))⟩; clear HO_131000 HO_131001 BK116 BK117 BK130 HB hq_; have HO_131000 := n0_; have HO_131001 := n1_; have BK116 := n2_; have BK117 := n3_; have BK130 := n4_; have HB := n5_; clear n0_ n1_ n2_ n3_ n4_ n5_))))
       replace HO_131000 := Aside0.mk (Kd.R_drew HO_131000.out)
       replace HO_131001 := Aside0.mk (Kd.R_drew HO_131001.out)
       replace BK116 := Aside0.mk (blk_drew BK116.out)
       replace BK117 := Aside0.mk (blk_drew BK117.out)
       replace BK130 := Aside0.mk (blk_drew BK130.out)
       replace HB := Aside0.mk (below_drew1 HB.out)
       have p149 : 0 ≤ (x7_1 : Int) := of_decide_eq_true (by first | (with_reducible assumption) | assumption)
       have q149 : x7_1 < (y140.length : Int) := (by have h_ : (x7_1 : Int) < ((x131000_1.length : Int) : Int) := of_decide_eq_true (by first | (with_reducible assumption) | assumption); first | (have e_ := (Kd.R_reads' HO_131000.out).1; omega) | simpa only [Ny138.out, Ny140.out, List.length_set] using h_)
       have ql149 : ((x7_1 : Int) < ((x131000_1.length : Int) : Int)) = True := eq_true (of_decide_eq_true (by first | (with_reducible assumption) | assumption))
       obtain ⟨ad149, e149, hx149_0⟩ := Kd.at_int (Kd.R_reads' HO_131000.out).2.2 x7_1 p149 q149
       obtain rfl : (⟨go33, 0, none⟩ : Addr) = ad149 := (by injection e149)
       (first | simp only [add_plain] at hx149_0 | simp only [add_at] at hx149_0 | simp only [Addr.add, Nat.zero_add] at hx149_0 | skip)
       replace p149 := eq_true p149; replace q149 := eq_true q149
       have p47 : 0 ≤ (x7_1 : Int) := of_decide_eq_true (by first | (with_reducible assumption) | assumption)
       have q47 : (x7_1 : Int) < ((x131000_1.length : Int) : Int) := of_decide_eq_true (by first | (with_reducible assumption) | assumption)
       obtain ⟨hx47_0, hf47_0⟩ := Kd.R_celln 0 HO_131000.out (x7_1 : Int) p47 q47
       replace p47 := eq_true p47; replace q47 := eq_true q47
       have HP73 := Kd.R_putn HO_131000.out (x7_1 : Int) (wrap64 ((rd y140 x7_1) - (wrap64 (Int.tdiv (wrap64 ((rd l0_0 x7_1) * (rd l1 (ji42)))) 256))))
       rw [← Ny150.out] at HP73
       have HQ73 := Aside0.mk HP73; clear HP73
       refine start_ (n := 12) (S := fun w' => w'.cell? ⟨gb130, 0, none⟩ = some (.slice (some ⟨go33, 0, none⟩) x131000_1.length co58) ∧ w'.cell? ⟨gb130, 1, none⟩ = some (.slice (some ⟨go39, 0, none⟩) x131001_1.length co65) ∧ w'.cell? ⟨go33, (x7_1).toNat, none⟩ = some (.int .i64 (rd y140 x7_1))) (ds := [11]) #[false, false, false, false, false, false, false, false, false, false, false, false] (by kernel_rfl) rfl rfl ⟨(blk_cell BK130.out 0).trans rfl, (blk_cell BK130.out 1).trans rfl, hx149_0⟩ (fun hHeld => ?_); refine with_tabW spec_l17Step.tab22 spec_l17Step.bits22 (fun HT_ HW_ => ?_)
       generalize w71.drew = w72 at HO_131000 HO_131001 BK116 BK117 BK130 HB HQ73 hf47_0 hx149_0 hx47_0 hHeld ⊢
       refine pT_ 0 (some 144) #[true, false, false, false, false, false, false, false, false, false, false, false] HT_ ?_
       refine pT_ 2 (some 146) #[true, false, true, false, false, false, false, false, false, false, false, false] HT_ ?_
       refine pT_ 3 (some 147) #[true, false, true, true, false, false, false, false, false, false, false, false] HT_ ?_
       refine pT_ 5 (some 149) #[true, false, true, true, false, true, false, false, false, false, false, false] HT_ ?_
       refine pT_ 8 (some 152) #[true, false, true, true, false, true, false, false, true, false, false, false] HT_ ?_
       refine tT_ 1 (some 145) #[true, true, true, true, false, true, false, false, true, false, false, false] HT_ HW_ hHeld ?_ (hy := by rintro w' ⟨s0, s1, s2⟩; go_simp; with_reducible rfl)
       refine tT_ 4 (some 148) #[true, true, true, true, true, true, false, false, true, false, false, false] HT_ HW_ hHeld ?_ (hy := by rintro w' ⟨s0, s1, s2⟩; go_simp; with_reducible rfl)
       refine pT_ 6 (some 150) #[true, true, true, true, true, true, true, false, true, false, false, false] HT_ ?_
       refine tT_ 7 (some 151) #[true, true, true, true, true, true, true, true, true, false, false, false] HT_ HW_ hHeld ?_ (hy := by rintro w' ⟨s0, s1, s2⟩; go_simp; with_reducible rfl)
       refine pT_ 9 (some 153) #[true, true, true, true, true, true, true, true, true, true, false, false] HT_ ?_
       refine pT_ 10 (some 154) #[true, true, true, true, true, true, true, true, true, true, true, false] HT_ ?_
       refine last_ (i := 11) (N := none) #[true, true, true, true, true, true, true, true, true, true, true, true] rfl rfl (one_of HT_.out (by kernel_rfl)) (by decide) (fun K hK => ?_)
       refine skip_ (w1 := ?_) (by rfl) rfl ?_ ?_
       rotate_left
       ·go_simp
        rfl
       refine hK.out _ _ ?_
       clear hK K
       refine done_ (done_of HT_.out (by kernel_rfl)) ?_
       try go_wp2
       have n0_ : Aside0 (Kd.R (Kd.int .i64) 2 (w72.setCell ⟨go33, (x7_1 : Int).toNat, none⟩ (.int .i64 (wrap64 ((rd y140 x7_1) - (wrap64 (Int.tdiv (wrap64 ((rd l0_0 x7_1) * (rd l1 (ji42)))) 256)))))) w.heap.size (fun k_ => some k_ ≠ (.slice (some ⟨go39, 0, none⟩) x131001_1.length co65 : Value).ownBlock) (.slice (some ⟨go33, 0, none⟩) x131000_1.length co58) y150) := ⟨by (with_reducible repeat (first | apply Kd.R_alloc | apply Kd.R_drewN | apply Kd.R_drew)); exact HQ73.out⟩
       have n1_ : Aside0 (Kd.R (Kd.int .i64) 2 (w72.setCell ⟨go33, (x7_1 : Int).toNat, none⟩ (.int .i64 (wrap64 ((rd y140 x7_1) - (wrap64 (Int.tdiv (wrap64 ((rd l0_0 x7_1) * (rd l1 (ji42)))) 256)))))) w.heap.size (fun k_ => some k_ ≠ (.slice (some ⟨go33, 0, none⟩) x131000_1.length co58 : Value).ownBlock) (.slice (some ⟨go39, 0, none⟩) x131001_1.length co65) y144) := ⟨by (with_reducible repeat (first | apply Kd.R_alloc | apply Kd.R_drewN | apply Kd.R_drew)); exact Kd.R_mono (Kd.R_far (p := ⟨go33, (x7_1 : Int).toNat, none⟩) (Kd.R_mono HO_131001.out (fun k_ hk => (⟨hk, fun e_ => hk (by rw [e_]; rfl)⟩ : _ ∧ k_ ≠ go33))) (fun _ hk => hk.2) (.int .i64 (wrap64 ((rd y140 x7_1) - (wrap64 (Int.tdiv (wrap64 ((rd l0_0 x7_1) * (rd l1 (ji42)))) 256)))))) (fun _ hk => hk.1)⟩
       have n2_ : Aside0 ((w72.setCell ⟨go33, (x7_1 : Int).toNat, none⟩ (.int .i64 (wrap64 ((rd y140 x7_1) - (wrap64 (Int.tdiv (wrap64 ((rd l0_0 x7_1) * (rd l1 (ji42)))) 256)))))).heap[gb116]? = some (.cells #[.slice (some ad131) l0_0.length c0_0, .slice (some ad132) l0_1.length c0_1] 26 (0, 0))) := ⟨by (with_reducible repeat (first | refine blk_drewN ?_ _ | refine blk_drew ?_ | refine blk_alloc ?_ _)); refine blk_far ?_ (by have h_ := Kd.R_ne HO_131000.out BK116.out (by decide); intro e_; exact h_ (by rw [e_]; rfl)) _; exact bT_ BK116⟩
       have n3_ : Aside0 ((w72.setCell ⟨go33, (x7_1 : Int).toNat, none⟩ (.int .i64 (wrap64 ((rd y140 x7_1) - (wrap64 (Int.tdiv (wrap64 ((rd l0_0 x7_1) * (rd l1 (ji42)))) 256)))))).heap[gb117]? = some (.cells #[.slice none 0 0, .slice none 0 0] 26 (0, 0))) := ⟨by (with_reducible repeat (first | refine blk_drewN ?_ _ | refine blk_drew ?_ | refine blk_alloc ?_ _)); refine blk_far ?_ (by have h_ := Kd.R_ne HO_131000.out BK117.out (by decide); intro e_; exact h_ (by rw [e_]; rfl)) _; exact bT_ BK117⟩
       have n4_ : Aside0 ((w72.setCell ⟨go33, (x7_1 : Int).toNat, none⟩ (.int .i64 (wrap64 ((rd y140 x7_1) - (wrap64 (Int.tdiv (wrap64 ((rd l0_0 x7_1) * (rd l1 (ji42)))) 256)))))).heap[gb130]? = some (.cells #[.slice (some ⟨go33, 0, none⟩) x131000_1.length co58, .slice (some ⟨go39, 0, none⟩) x131001_1.length co65] 26 (0, 0))) := ⟨by (with_reducible repeat (first | refine blk_drewN ?_ _ | refine blk_drew ?_ | refine blk_alloc ?_ _)); refine blk_far ?_ (by have h_ := Kd.R_ne HO_131000.out BK130.out (by decide); intro e_; exact h_ (by rw [e_]; rfl)) _; exact bT_ BK130⟩
       have n5_ : Aside0 (Below w.heap.size w (w72.setCell ⟨go33, (x7_1 : Int).toNat, none⟩ (.int .i64 (wrap64 ((rd y140 x7_1) - (wrap64 (Int.tdiv (wrap64 ((rd l0_0 x7_1) * (rd l1 (ji42)))) 256))))))) := ⟨by repeat (first | (with_reducible first | exact HB.out | apply below_alloc | apply pw_below_drewN | apply below_drew1 | refine below_set ?_ GB33.out | refine below_set ?_ GE116.out | refine below_set ?_ GE117.out | refine below_set ?_ GE130.out) | exact HB.out)⟩
       (try clear HO_131000); (try clear HO_131001); (try clear BK116); (try clear BK117); (try clear BK130); (try clear HB)
       generalize (w72.setCell ⟨go33, (x7_1 : Int).toNat, none⟩ (.int .i64 (wrap64 ((rd y140 x7_1) - (wrap64 (Int.tdiv (wrap64 ((rd l0_0 x7_1) * (rd l1 (ji42)))) 256)))))) = w74 at n0_ n1_ n2_ n3_ n4_ n5_ ⊢
       have HO_131000 := n0_; have HO_131001 := n1_; have BK116 := n2_; have BK117 := n3_; have BK130 := n4_; have HB := n5_; clear n0_ n1_ n2_ n3_ n4_ n5_
       replace HO_131000 := Aside0.mk (Kd.R_drew HO_131000.out)
       replace HO_131001 := Aside0.mk (Kd.R_drew HO_131001.out)
       replace BK116 := Aside0.mk (blk_drew BK116.out)
       replace BK117 := Aside0.mk (blk_drew BK117.out)
       replace BK130 := Aside0.mk (blk_drew BK130.out)
       replace HB := Aside0.mk (below_drew1 HB.out)
       have p151 : 0 ≤ ((ji42) : Int) := of_decide_eq_true (by first | (with_reducible assumption) | assumption)
       have q151 : (ji42) < (y150.length : Int) := (by have h_ : ((ji42) : Int) < ((x131000_1.length : Int) : Int) := of_decide_eq_true (by first | (with_reducible assumption) | assumption); first | (have e_ := (Kd.R_reads' HO_131000.out).1; omega) | simpa only [Ny138.out, Ny140.out, Ny150.out, List.length_set] using h_)
       have ql151 : (((ji42) : Int) < ((x131000_1.length : Int) : Int)) = True := eq_true (of_decide_eq_true (by first | (with_reducible assumption) | assumption))
       obtain ⟨ad151, e151, hx151_0⟩ := Kd.at_int (Kd.R_reads' HO_131000.out).2.2 (ji42) p151 q151
       obtain rfl : (⟨go33, 0, none⟩ : Addr) = ad151 := (by injection e151)
       (first | simp only [add_plain] at hx151_0 | simp only [add_at] at hx151_0 | simp only [Addr.add, Nat.zero_add] at hx151_0 | skip)
       replace p151 := eq_true p151; replace q151 := eq_true q151
       have p49 : 0 ≤ ((ji42) : Int) := of_decide_eq_true (by first | (with_reducible assumption) | assumption)
       have q49 : ((ji42) : Int) < ((x131000_1.length : Int) : Int) := of_decide_eq_true (by first | (with_reducible assumption) | assumption)
       obtain ⟨hx49_0, hf49_0⟩ := Kd.R_celln 0 HO_131000.out ((ji42) : Int) p49 q49
       replace p49 := eq_true p49; replace q49 := eq_true q49
       have HP76 := Kd.R_putn HO_131000.out ((ji42) : Int) (wrap64 ((rd y150 (ji42)) + (wrap64 (Int.tdiv (wrap64 ((rd l0_0 x7_1) * (rd l1 (ji42)))) 256))))
       rw [← Ny152.out] at HP76
       have HQ76 := Aside0.mk HP76; clear HP76
       refine start_ (n := 12) (S := fun w' => w'.cell? ⟨gb130, 0, none⟩ = some (.slice (some ⟨go33, 0, none⟩) x131000_1.length co58) ∧ w'.cell? ⟨gb130, 1, none⟩ = some (.slice (some ⟨go39, 0, none⟩) x131001_1.length co65) ∧ w'.cell? ⟨go33, ((ji42)).toNat, none⟩ = some (.int .i64 (rd y150 (ji42)))) (ds := [11]) #[false, false, false, false, false, false, false, false, false, false, false, false] (by kernel_rfl) rfl rfl ⟨(blk_cell BK130.out 0).trans rfl, (blk_cell BK130.out 1).trans rfl, hx151_0⟩ (fun hHeld => ?_); refine with_tabW spec_l17Step.tab23 spec_l17Step.bits23 (fun HT_ HW_ => ?_)
       generalize w74.drew = w75 at HO_131000 HO_131001 BK116 BK117 BK130 HB HQ73 HQ76 hf49_0 hx151_0 hx49_0 hHeld ⊢
       refine pT_ 0 (some 155) #[true, false, false, false, false, false, false, false, false, false, false, false] HT_ ?_
       refine pT_ 2 (some 157) #[true, false, true, false, false, false, false, false, false, false, false, false] HT_ ?_
       refine pT_ 3 (some 158) #[true, false, true, true, false, false, false, false, false, false, false, false] HT_ ?_
       refine pT_ 5 (some 160) #[true, false, true, true, false, true, false, false, false, false, false, false] HT_ ?_
       refine pT_ 8 (some 163) #[true, false, true, true, false, true, false, false, true, false, false, false] HT_ ?_
       refine tT_ 1 (some 156) #[true, true, true, true, false, true, false, false, true, false, false, false] HT_ HW_ hHeld ?_ (hy := by rintro w' ⟨s0, s1, s2⟩; go_simp; with_reducible rfl)
       refine tT_ 4 (some 159) #[true, true, true, true, true, true, false, false, true, false, false, false] HT_ HW_ hHeld ?_ (hy := by rintro w' ⟨s0, s1, s2⟩; go_simp; with_reducible rfl)
       refine pT_ 6 (some 161) #[true, true, true, true, true, true, true, false, true, false, false, false] HT_ ?_
       refine tT_ 7 (some 162) #[true, true, true, true, true, true, true, true, true, false, false, false] HT_ HW_ hHeld ?_ (hy := by rintro w' ⟨s0, s1, s2⟩; go_simp; with_reducible rfl)
       refine pT_ 9 (some 164) #[true, true, true, true, true, true, true, true, true, true, false, false] HT_ ?_
       refine pT_ 10 (some 165) #[true, true, true, true, true, true, true, true, true, true, true, false] HT_ ?_
       refine last_ (i := 11) (N := none) #[true, true, true, true, true, true, true, true, true, true, true, true] rfl rfl (one_of HT_.out (by kernel_rfl)) (by decide) (fun K hK => ?_)
       refine skip_ (w1 := ?_) (by rfl) rfl ?_ ?_
       rotate_left
       ·go_simp
        rfl
       refine hK.out _ _ ?_
       clear hK K
       refine done_ (done_of HT_.out (by kernel_rfl)) ?_
       try go_wp2
       have n0_ : Aside0 (Kd.R (Kd.int .i64) 2 (w75.setCell ⟨go33, ((ji42) : Int).toNat, none⟩ (.int .i64 (wrap64 ((rd y150 (ji42)) + (wrap64 (Int.tdiv (wrap64 ((rd l0_0 x7_1) * (rd l1 (ji42)))) 256)))))) w.heap.size (fun k_ => some k_ ≠ (.slice (some ⟨go39, 0, none⟩) x131001_1.length co65 : Value).ownBlock) (.slice (some ⟨go33, 0, none⟩) x131000_1.length co58) y152) := ⟨by (with_reducible repeat (first | apply Kd.R_alloc | apply Kd.R_drewN | apply Kd.R_drew)); exact HQ76.out⟩
       have n1_ : Aside0 (Kd.R (Kd.int .i64) 2 (w75.setCell ⟨go33, ((ji42) : Int).toNat, none⟩ (.int .i64 (wrap64 ((rd y150 (ji42)) + (wrap64 (Int.tdiv (wrap64 ((rd l0_0 x7_1) * (rd l1 (ji42)))) 256)))))) w.heap.size (fun k_ => some k_ ≠ (.slice (some ⟨go33, 0, none⟩) x131000_1.length co58 : Value).ownBlock) (.slice (some ⟨go39, 0, none⟩) x131001_1.length co65) y144) := ⟨by (with_reducible repeat (first | apply Kd.R_alloc | apply Kd.R_drewN | apply Kd.R_drew)); exact Kd.R_mono (Kd.R_far (p := ⟨go33, ((ji42) : Int).toNat, none⟩) (Kd.R_mono HO_131001.out (fun k_ hk => (⟨hk, fun e_ => hk (by rw [e_]; rfl)⟩ : _ ∧ k_ ≠ go33))) (fun _ hk => hk.2) (.int .i64 (wrap64 ((rd y150 (ji42)) + (wrap64 (Int.tdiv (wrap64 ((rd l0_0 x7_1) * (rd l1 (ji42)))) 256)))))) (fun _ hk => hk.1)⟩
       have n2_ : Aside0 ((w75.setCell ⟨go33, ((ji42) : Int).toNat, none⟩ (.int .i64 (wrap64 ((rd y150 (ji42)) + (wrap64 (Int.tdiv (wrap64 ((rd l0_0 x7_1) * (rd l1 (ji42)))) 256)))))).heap[gb116]? = some (.cells #[.slice (some ad131) l0_0.length c0_0, .slice (some ad132) l0_1.length c0_1] 26 (0, 0))) := ⟨by (with_reducible repeat (first | refine blk_drewN ?_ _ | refine blk_drew ?_ | refine blk_alloc ?_ _)); refine blk_far ?_ (by have h_ := Kd.R_ne HO_131000.out BK116.out (by decide); intro e_; exact h_ (by rw [e_]; rfl)) _; exact bT_ BK116⟩
       have n3_ : Aside0 ((w75.setCell ⟨go33, ((ji42) : Int).toNat, none⟩ (.int .i64 (wrap64 ((rd y150 (ji42)) + (wrap64 (Int.tdiv (wrap64 ((rd l0_0 x7_1) * (rd l1 (ji42)))) 256)))))).heap[gb117]? = some (.cells #[.slice none 0 0, .slice none 0 0] 26 (0, 0))) := ⟨by (with_reducible repeat (first | refine blk_drewN ?_ _ | refine blk_drew ?_ | refine blk_alloc ?_ _)); refine blk_far ?_ (by have h_ := Kd.R_ne HO_131000.out BK117.out (by decide); intro e_; exact h_ (by rw [e_]; rfl)) _; exact bT_ BK117⟩
       have n4_ : Aside0 ((w75.setCell ⟨go33, ((ji42) : Int).toNat, none⟩ (.int .i64 (wrap64 ((rd y150 (ji42)) + (wrap64 (Int.tdiv (wrap64 ((rd l0_0 x7_1) * (rd l1 (ji42)))) 256)))))).heap[gb130]? = some (.cells #[.slice (some ⟨go33, 0, none⟩) x131000_1.length co58, .slice (some ⟨go39, 0, none⟩) x131001_1.length co65] 26 (0, 0))) := ⟨by (with_reducible repeat (first | refine blk_drewN ?_ _ | refine blk_drew ?_ | refine blk_alloc ?_ _)); refine blk_far ?_ (by have h_ := Kd.R_ne HO_131000.out BK130.out (by decide); intro e_; exact h_ (by rw [e_]; rfl)) _; exact bT_ BK130⟩
       have n5_ : Aside0 (Below w.heap.size w (w75.setCell ⟨go33, ((ji42) : Int).toNat, none⟩ (.int .i64 (wrap64 ((rd y150 (ji42)) + (wrap64 (Int.tdiv (wrap64 ((rd l0_0 x7_1) * (rd l1 (ji42)))) 256))))))) := ⟨by repeat (first | (with_reducible first | exact HB.out | apply below_alloc | apply pw_below_drewN | apply below_drew1 | refine below_set ?_ GB33.out | refine below_set ?_ GE116.out | refine below_set ?_ GE117.out | refine below_set ?_ GE130.out) | exact HB.out)⟩
       (try clear HO_131000); (try clear HO_131001); (try clear BK116); (try clear BK117); (try clear BK130); (try clear HB)
       generalize (w75.setCell ⟨go33, ((ji42) : Int).toNat, none⟩ (.int .i64 (wrap64 ((rd y150 (ji42)) + (wrap64 (Int.tdiv (wrap64 ((rd l0_0 x7_1) * (rd l1 (ji42)))) 256)))))) = w77 at n0_ n1_ n2_ n3_ n4_ n5_ ⊢
       have HO_131000 := n0_; have HO_131001 := n1_; have BK116 := n2_; have BK117 := n3_; have BK130 := n4_; have HB := n5_; clear n0_ n1_ n2_ n3_ n4_ n5_
       replace HO_131000 := Aside0.mk (Kd.R_drew HO_131000.out)
       replace HO_131001 := Aside0.mk (Kd.R_drew HO_131001.out)
       replace BK116 := Aside0.mk (blk_drew BK116.out)
       replace BK117 := Aside0.mk (blk_drew BK117.out)
       replace BK130 := Aside0.mk (blk_drew BK130.out)
       replace HB := Aside0.mk (below_drew1 HB.out)
       have p153 : 0 ≤ (x7_1 : Int) := of_decide_eq_true (by first | (with_reducible assumption) | assumption)
       have q153 : x7_1 < (y144.length : Int) := (by have h_ : (x7_1 : Int) < ((x131001_1.length : Int) : Int) := of_decide_eq_true (by first | (with_reducible assumption) | assumption); first | (have e_ := (Kd.R_reads' HO_131001.out).1; omega) | simpa only [Ny142.out, Ny144.out, List.length_set] using h_)
       have ql153 : ((x7_1 : Int) < ((x131001_1.length : Int) : Int)) = True := eq_true (of_decide_eq_true (by first | (with_reducible assumption) | assumption))
       obtain ⟨ad153, e153, hx153_0⟩ := Kd.at_int (Kd.R_reads' HO_131001.out).2.2 x7_1 p153 q153
       obtain rfl : (⟨go39, 0, none⟩ : Addr) = ad153 := (by injection e153)
       (first | simp only [add_plain] at hx153_0 | simp only [add_at] at hx153_0 | simp only [Addr.add, Nat.zero_add] at hx153_0 | skip)
       replace p153 := eq_true p153; replace q153 := eq_true q153
       have p50 : 0 ≤ (x7_1 : Int) := of_decide_eq_true (by first | (with_reducible assumption) | assumption)
       have q50 : (x7_1 : Int) < ((x131001_1.length : Int) : Int) := of_decide_eq_true (by first | (with_reducible assumption) | assumption)
       obtain ⟨hx50_0, hf50_0⟩ := Kd.R_celln 0 HO_131001.out (x7_1 : Int) p50 q50
       replace p50 := eq_true p50; replace q50 := eq_true q50
       have HP79 := Kd.R_putn HO_131001.out (x7_1 : Int) (wrap64 ((rd y144 x7_1) - t148))
       rw [← Ny154.out] at HP79
       have HQ79 := Aside0.mk HP79; clear HP79
       refine start_ (n := 12) (S := fun w' => w'.cell? ⟨gb130, 0, none⟩ = some (.slice (some ⟨go33, 0, none⟩) x131000_1.length co58) ∧ w'.cell? ⟨gb130, 1, none⟩ = some (.slice (some ⟨go39, 0, none⟩) x131001_1.length co65) ∧ w'.cell? ⟨go39, (x7_1).toNat, none⟩ = some (.int .i64 (rd y144 x7_1))) (ds := [11]) #[false, false, false, false, false, false, false, false, false, false, false, false] (by kernel_rfl) rfl rfl ⟨(blk_cell BK130.out 0).trans rfl, (blk_cell BK130.out 1).trans rfl, hx153_0⟩ (fun hHeld => ?_); refine with_tabW spec_l17Step.tab24 spec_l17Step.bits24 (fun HT_ HW_ => ?_)
       generalize w77.drew = w78 at HO_131000 HO_131001 BK116 BK117 BK130 HB HQ76 HQ79 hf50_0 hx153_0 hx50_0 hHeld ⊢
       refine pT_ 0 (some 166) #[true, false, false, false, false, false, false, false, false, false, false, false] HT_ ?_
       refine pT_ 2 (some 168) #[true, false, true, false, false, false, false, false, false, false, false, false] HT_ ?_
       refine pT_ 3 (some 169) #[true, false, true, true, false, false, false, false, false, false, false, false] HT_ ?_
       refine pT_ 5 (some 171) #[true, false, true, true, false, true, false, false, false, false, false, false] HT_ ?_
       refine pT_ 8 (some 174) #[true, false, true, true, false, true, false, false, true, false, false, false] HT_ ?_
       refine tT_ 1 (some 167) #[true, true, true, true, false, true, false, false, true, false, false, false] HT_ HW_ hHeld ?_ (hy := by rintro w' ⟨s0, s1, s2⟩; go_simp; with_reducible rfl)
       refine tT_ 4 (some 170) #[true, true, true, true, true, true, false, false, true, false, false, false] HT_ HW_ hHeld ?_ (hy := by rintro w' ⟨s0, s1, s2⟩; go_simp; with_reducible rfl)
       refine pT_ 6 (some 172) #[true, true, true, true, true, true, true, false, true, false, false, false] HT_ ?_
       refine tT_ 7 (some 173) #[true, true, true, true, true, true, true, true, true, false, false, false] HT_ HW_ hHeld ?_ (hy := by rintro w' ⟨s0, s1, s2⟩; go_simp; with_reducible rfl)
       refine pT_ 9 (some 175) #[true, true, true, true, true, true, true, true, true, true, false, false] HT_ ?_
       refine pT_ 10 (some 176) #[true, true, true, true, true, true, true, true, true, true, true, false] HT_ ?_
       refine last_ (i := 11) (N := none) #[true, true, true, true, true, true, true, true, true, true, true, true] rfl rfl (one_of HT_.out (by kernel_rfl)) (by decide) (fun K hK => ?_)
       refine skip_ (w1 := ?_) (by rfl) rfl ?_ ?_
       rotate_left
       ·go_simp
        rfl
       refine hK.out _ _ ?_
       clear hK K
       refine done_ (done_of HT_.out (by kernel_rfl)) ?_
       try go_wp2
       have n0_ : Aside0 (Kd.R (Kd.int .i64) 2 (w78.setCell ⟨go39, (x7_1 : Int).toNat, none⟩ (.int .i64 (wrap64 ((rd y144 x7_1) - t148)))) w.heap.size (fun k_ => some k_ ≠ (.slice (some ⟨go39, 0, none⟩) x131001_1.length co65 : Value).ownBlock) (.slice (some ⟨go33, 0, none⟩) x131000_1.length co58) y152) := ⟨by (with_reducible repeat (first | apply Kd.R_alloc | apply Kd.R_drewN | apply Kd.R_drew)); exact Kd.R_mono (Kd.R_far (p := ⟨go39, (x7_1 : Int).toNat, none⟩) (Kd.R_mono HO_131000.out (fun k_ hk => (⟨hk, fun e_ => hk (by rw [e_]; rfl)⟩ : _ ∧ k_ ≠ go39))) (fun _ hk => hk.2) (.int .i64 (wrap64 ((rd y144 x7_1) - t148)))) (fun _ hk => hk.1)⟩
       have n1_ : Aside0 (Kd.R (Kd.int .i64) 2 (w78.setCell ⟨go39, (x7_1 : Int).toNat, none⟩ (.int .i64 (wrap64 ((rd y144 x7_1) - t148)))) w.heap.size (fun k_ => some k_ ≠ (.slice (some ⟨go33, 0, none⟩) x131000_1.length co58 : Value).ownBlock) (.slice (some ⟨go39, 0, none⟩) x131001_1.length co65) y154) := ⟨by (with_reducible repeat (first | apply Kd.R_alloc | apply Kd.R_drewN | apply Kd.R_drew)); exact HQ79.out⟩
       have n2_ : Aside0 ((w78.setCell ⟨go39, (x7_1 : Int).toNat, none⟩ (.int .i64 (wrap64 ((rd y144 x7_1) - t148)))).heap[gb116]? = some (.cells #[.slice (some ad131) l0_0.length c0_0, .slice (some ad132) l0_1.length c0_1] 26 (0, 0))) := ⟨by (with_reducible repeat (first | refine blk_drewN ?_ _ | refine blk_drew ?_ | refine blk_alloc ?_ _)); refine blk_far ?_ (by have h_ := Kd.R_ne HO_131001.out BK116.out (by decide); intro e_; exact h_ (by rw [e_]; rfl)) _; exact bT_ BK116⟩
       have n3_ : Aside0 ((w78.setCell ⟨go39, (x7_1 : Int).toNat, none⟩ (.int .i64 (wrap64 ((rd y144 x7_1) - t148)))).heap[gb117]? = some (.cells #[.slice none 0 0, .slice none 0 0] 26 (0, 0))) := ⟨by (with_reducible repeat (first | refine blk_drewN ?_ _ | refine blk_drew ?_ | refine blk_alloc ?_ _)); refine blk_far ?_ (by have h_ := Kd.R_ne HO_131001.out BK117.out (by decide); intro e_; exact h_ (by rw [e_]; rfl)) _; exact bT_ BK117⟩
       have n4_ : Aside0 ((w78.setCell ⟨go39, (x7_1 : Int).toNat, none⟩ (.int .i64 (wrap64 ((rd y144 x7_1) - t148)))).heap[gb130]? = some (.cells #[.slice (some ⟨go33, 0, none⟩) x131000_1.length co58, .slice (some ⟨go39, 0, none⟩) x131001_1.length co65] 26 (0, 0))) := ⟨by (with_reducible repeat (first | refine blk_drewN ?_ _ | refine blk_drew ?_ | refine blk_alloc ?_ _)); refine blk_far ?_ (by have h_ := Kd.R_ne HO_131001.out BK130.out (by decide); intro e_; exact h_ (by rw [e_]; rfl)) _; exact bT_ BK130⟩
       have n5_ : Aside0 (Below w.heap.size w (w78.setCell ⟨go39, (x7_1 : Int).toNat, none⟩ (.int .i64 (wrap64 ((rd y144 x7_1) - t148))))) := ⟨by repeat (first | (with_reducible first | exact HB.out | apply below_alloc | apply pw_below_drewN | apply below_drew1 | refine below_set ?_ GB39.out | refine below_set ?_ GE116.out | refine below_set ?_ GE117.out | refine below_set ?_ GE130.out) | exact HB.out)⟩
       (try clear HO_131000); (try clear HO_131001); (try clear BK116); (try clear BK117); (try clear BK130); (try clear HB)
       generalize (w78.setCell ⟨go39, (x7_1 : Int).toNat, none⟩ (.int .i64 (wrap64 ((rd y144 x7_1) - t148)))) = w80 at n0_ n1_ n2_ n3_ n4_ n5_ ⊢
       have HO_131000 := n0_; have HO_131001 := n1_; have BK116 := n2_; have BK117 := n3_; have BK130 := n4_; have HB := n5_; clear n0_ n1_ n2_ n3_ n4_ n5_
       replace HO_131000 := Aside0.mk (Kd.R_drew HO_131000.out)
       replace HO_131001 := Aside0.mk (Kd.R_drew HO_131001.out)
       replace BK116 := Aside0.mk (blk_drew BK116.out)
       replace BK117 := Aside0.mk (blk_drew BK117.out)
       replace BK130 := Aside0.mk (blk_drew BK130.out)
       replace HB := Aside0.mk (below_drew1 HB.out)
       have p155 : 0 ≤ ((ji42) : Int) := of_decide_eq_true (by first | (with_reducible assumption) | assumption)
       have q155 : (ji42) < (y154.length : Int) := (by have h_ : ((ji42) : Int) < ((x131001_1.length : Int) : Int) := of_decide_eq_true (by first | (with_reducible assumption) | assumption); first | (have e_ := (Kd.R_reads' HO_131001.out).1; omega) | simpa only [Ny142.out, Ny144.out, Ny154.out, List.length_set] using h_)
       have ql155 : (((ji42) : Int) < ((x131001_1.length : Int) : Int)) = True := eq_true (of_decide_eq_true (by first | (with_reducible assumption) | assumption))
       obtain ⟨ad155, e155, hx155_0⟩ := Kd.at_int (Kd.R_reads' HO_131001.out).2.2 (ji42) p155 q155
       obtain rfl : (⟨go39, 0, none⟩ : Addr) = ad155 := (by injection e155)
       (first | simp only [add_plain] at hx155_0 | simp only [add_at] at hx155_0 | simp only [Addr.add, Nat.zero_add] at hx155_0 | skip)
       replace p155 := eq_true p155; replace q155 := eq_true q155
       have p52 : 0 ≤ ((ji42) : Int) := of_decide_eq_true (by first | (with_reducible assumption) | assumption)
       have q52 : ((ji42) : Int) < ((x131001_1.length : Int) : Int) := of_decide_eq_true (by first | (with_reducible assumption) | assumption)
       obtain ⟨hx52_0, hf52_0⟩ := Kd.R_celln 0 HO_131001.out ((ji42) : Int) p52 q52
       replace p52 := eq_true p52; replace q52 := eq_true q52
       have HP82 := Kd.R_putn HO_131001.out ((ji42) : Int) (wrap64 ((rd y154 (ji42)) + t148))
       rw [← Ny156.out] at HP82
       have HQ82 := Aside0.mk HP82; clear HP82
       refine start_ (n := 12) (S := fun w' => w'.cell? ⟨gb130, 0, none⟩ = some (.slice (some ⟨go33, 0, none⟩) x131000_1.length co58) ∧ w'.cell? ⟨gb130, 1, none⟩ = some (.slice (some ⟨go39, 0, none⟩) x131001_1.length co65) ∧ w'.cell? ⟨go39, ((ji42)).toNat, none⟩ = some (.int .i64 (rd y154 (ji42)))) (ds := [11]) #[false, false, false, false, false, false, false, false, false, false, false, false] (by kernel_rfl) rfl rfl ⟨(blk_cell BK130.out 0).trans rfl, (blk_cell BK130.out 1).trans rfl, hx155_0⟩ (fun hHeld => ?_); refine with_tabW spec_l17Step.tab25 spec_l17Step.bits25 (fun HT_ HW_ => ?_)
       generalize w80.drew = w81 at HO_131000 HO_131001 BK116 BK117 BK130 HB HQ79 HQ82 hf52_0 hx155_0 hx52_0 hHeld ⊢
       refine pT_ 0 (some 177) #[true, false, false, false, false, false, false, false, false, false, false, false] HT_ ?_
       refine pT_ 2 (some 179) #[true, false, true, false, false, false, false, false, false, false, false, false] HT_ ?_
       refine pT_ 3 (some 180) #[true, false, true, true, false, false, false, false, false, false, false, false] HT_ ?_
       refine pT_ 5 (some 182) #[true, false, true, true, false, true, false, false, false, false, false, false] HT_ ?_
       refine pT_ 8 (some 185) #[true, false, true, true, false, true, false, false, true, false, false, false] HT_ ?_
       refine tT_ 1 (some 178) #[true, true, true, true, false, true, false, false, true, false, false, false] HT_ HW_ hHeld ?_ (hy := by rintro w' ⟨s0, s1, s2⟩; go_simp; with_reducible rfl)
       refine tT_ 4 (some 181) #[true, true, true, true, true, true, false, false, true, false, false, false] HT_ HW_ hHeld ?_ (hy := by rintro w' ⟨s0, s1, s2⟩; go_simp; with_reducible rfl)
       refine pT_ 6 (some 183) #[true, true, true, true, true, true, true, false, true, false, false, false] HT_ ?_
       refine tT_ 7 (some 184) #[true, true, true, true, true, true, true, true, true, false, false, false] HT_ HW_ hHeld ?_ (hy := by rintro w' ⟨s0, s1, s2⟩; go_simp; with_reducible rfl)
       refine pT_ 9 (some 186) #[true, true, true, true, true, true, true, true, true, true, false, false] HT_ ?_
       refine pT_ 10 (some 187) #[true, true, true, true, true, true, true, true, true, true, true, false] HT_ ?_
       refine last_ (i := 11) (N := none) #[true, true, true, true, true, true, true, true, true, true, true, true] rfl rfl (one_of HT_.out (by kernel_rfl)) (by decide) (fun K hK => ?_)
       refine skip_ (w1 := ?_) (by rfl) rfl ?_ ?_
       rotate_left
       ·go_simp
        rfl
       refine hK.out _ _ ?_
       clear hK K
       refine done_ (done_of HT_.out (by kernel_rfl)) ?_
       try go_wp2
       go_roundg k1
       case measure => have := HK1.out; omega
       case rel => exact ⟨(wrap64 (x7_1 + 1)), (y152), (y156), (.slice (some ⟨go33, 0, none⟩) x131000_1.length co58), (.slice (some ⟨go39, 0, none⟩) x131001_1.length co65), (by first | rfl | (simp; done) | (simp [*]; done)), H', ⟨by have := HK1.out; omega⟩, ⟨by (with_reducible repeat (first | apply Kd.R_alloc | apply Kd.R_drewN | apply Kd.R_drew)); exact Kd.R_mono (Kd.R_far (p := ⟨go39, ((ji42) : Int).toNat, none⟩) (Kd.R_mono HO_131000.out (fun k_ hk => (⟨hk, fun e_ => hk (by rw [e_]; rfl)⟩ : _ ∧ k_ ≠ go39))) (fun _ hk => hk.2) (.int .i64 (wrap64 ((rd y154 (ji42)) + t148)))) (fun _ hk => hk.1)⟩, ⟨by (with_reducible repeat (first | apply Kd.R_alloc | apply Kd.R_drewN | apply Kd.R_drew)); exact HQ82.out⟩, ⟨by (with_reducible repeat (first | refine blk_drewN ?_ _ | refine blk_drew ?_ | refine blk_alloc ?_ _)); refine blk_far ?_ (by have h_ := Kd.R_ne HO_131001.out BK116.out (by decide); intro e_; exact h_ (by rw [e_]; rfl)) _; exact bT_ BK116⟩, ⟨by (with_reducible repeat (first | refine blk_drewN ?_ _ | refine blk_drew ?_ | refine blk_alloc ?_ _)); refine blk_far ?_ (by have h_ := Kd.R_ne HO_131001.out BK117.out (by decide); intro e_; exact h_ (by rw [e_]; rfl)) _; exact bT_ BK117⟩, ⟨by (with_reducible repeat (first | refine blk_drewN ?_ _ | refine blk_drew ?_ | refine blk_alloc ?_ _)); refine blk_far ?_ (by have h_ := Kd.R_ne HO_131001.out BK130.out (by decide); intro e_; exact h_ (by rw [e_]; rfl)) _; exact bT_ BK130⟩, ⟨by repeat (first | (with_reducible first | exact HB.out | apply below_alloc | apply pw_below_drewN | apply below_drew1 | refine below_set ?_ GB39.out | refine below_set ?_ GE116.out | refine below_set ?_ GE117.out | refine below_set ?_ GE130.out) | exact HB.out)⟩⟩
      ·rw [if_neg c45] at H
       have c45b0 : decide (0 < (rd l1 (ji42))) = false := decide_eq_false c45
       clear c45; have H' := Aside0.mk H; clear H; have hnb83 := NB116_117.out; have hnc83 := NB117_116.out; have hnb84 := NB116_130.out; have hnc84 := NB130_116.out
       have hcz85_0 : wr.cell? ⟨gb116, 0, none⟩ = some (.slice A0_0 l0_0.length c0_0) := (blk_cell BK116.out 0).trans rfl
       have hcz85_1 : wr.cell? ⟨gb116, 1, none⟩ = some (.slice A0_1 l0_1.length c0_1) := (blk_cell BK116.out 1).trans rfl
       have hfz85_0 := blk_frozen BK116.out 0; have hfz85_1 := blk_frozen BK116.out 1
       have p131 : 0 ≤ (x7_1 : Int) := of_decide_eq_true (by first | (with_reducible assumption) | assumption)
       have q131 : x7_1 < (l0_0.length : Int) := of_decide_eq_true (by first | (with_reducible assumption) | assumption)
       obtain ⟨ad131, e131, hx131_0⟩ := Kd.at_int HR0_0.out x7_1 p131 q131
       cases e131
       replace hx131_0 := (HB.out.cell (World.block_lt_of_cell? w _ hx131_0)).trans hx131_0
       replace p131 := eq_true p131; replace q131 := eq_true q131
       have p132 : 0 ≤ (x7_1 : Int) := of_decide_eq_true (by first | (with_reducible assumption) | assumption)
       have q132 : x7_1 < (l0_1.length : Int) := of_decide_eq_true (by first | (with_reducible assumption) | assumption)
       obtain ⟨ad132, e132, hx132_0⟩ := Kd.at_int HR0_1.out x7_1 p132 q132
       cases e132
       replace hx132_0 := (HB.out.cell (World.block_lt_of_cell? w _ hx132_0)).trans hx132_0
       replace p132 := eq_true p132; replace q132 := eq_true q132
       have p133 : 0 ≤ (x7_1 : Int) := of_decide_eq_true (by first | (with_reducible assumption) | assumption)
       have q133 : x7_1 < (l1.length : Int) := of_decide_eq_true (by first | (with_reducible assumption) | assumption)
       obtain ⟨ad133, e133, hx133_0⟩ := Kd.at_int HR1.out x7_1 p133 q133
       cases e133
       replace hx133_0 := (HB.out.cell (World.block_lt_of_cell? w _ hx133_0)).trans hx133_0
       replace p133 := eq_true p133; replace q133 := eq_true q133
       try go_wp2
       replace HO_131000 := Aside0.mk (Kd.R_drew HO_131000.out)
       replace HO_131001 := Aside0.mk (Kd.R_drew HO_131001.out)
       replace BK116 := Aside0.mk (blk_drew BK116.out)
       replace BK117 := Aside0.mk (blk_drew BK117.out)
       replace BK130 := Aside0.mk (blk_drew BK130.out)
       replace HB := Aside0.mk (below_drew1 HB.out)
       have p134 : 0 ≤ (x7_1 : Int) := of_decide_eq_true (by first | (with_reducible assumption) | assumption)
       have q134 : x7_1 < (l0_0.length : Int) := of_decide_eq_true (by first | (with_reducible assumption) | assumption)
       obtain ⟨ad134, e134, hx134_0⟩ := Kd.at_int HR0_0.out x7_1 p134 q134
       have hw134_0 := hx134_0
       obtain rfl : ad131 = ad134 := (by injection e134)
       replace hx134_0 := (HB.out.cell (World.block_lt_of_cell? w _ hx134_0)).trans hx134_0
       replace p134 := eq_true p134; replace q134 := eq_true q134
       have p135 : 0 ≤ (x7_1 : Int) := of_decide_eq_true (by first | (with_reducible assumption) | assumption)
       have q135 : x7_1 < (l1.length : Int) := of_decide_eq_true (by first | (with_reducible assumption) | assumption)
       obtain ⟨ad135, e135, hx135_0⟩ := Kd.at_int HR1.out x7_1 p135 q135
       have hw135_0 := hx135_0
       obtain rfl : ad133 = ad135 := (by injection e135)
       replace hx135_0 := (HB.out.cell (World.block_lt_of_cell? w _ hx135_0)).trans hx135_0
       replace p135 := eq_true p135; replace q135 := eq_true q135
       refine start_ (n := 13) (S := fun w' => w'.cell? ⟨gb116, 0, none⟩ = some (.slice (some ad131) l0_0.length c0_0) ∧ w'.cell? ⟨gb116, 1, none⟩ = some (.slice (some ad132) l0_1.length c0_1) ∧ w'.cell? (ad131.add (x7_1).toNat) = some (.int .i64 (rd l0_0 x7_1)) ∧ w'.cell? (ad133.add (x7_1).toNat) = some (.int .i64 (rd l1 x7_1))) (ds := []) #[false, false, false, false, false, false, false, false, false, false, false, false, false] (by kernel_rfl) rfl rfl ⟨(blk_cell BK116.out 0).trans rfl, (blk_cell BK116.out 1).trans rfl, ((HB.out.cell (World.block_lt_of_cell? w _ hw134_0)).trans hw134_0), ((HB.out.cell (World.block_lt_of_cell? w _ hw135_0)).trans hw135_0)⟩ (fun hHeld => ?_); refine with_tabW spec_l17Step.tab11 spec_l17Step.bits11 (fun HT_ HW_ => ?_)
       generalize wr.drew = w86 at HO_131000 HO_131001 BK116 BK117 BK130 HB hx134_0 hx135_0 hHeld ⊢
       refine pT_ 0 (some 58) #[true, false, false, false, false, false, false, false, false, false, false, false, false] HT_ ?_
       refine pT_ 2 (some 60) #[true, false, true, false, false, false, false, false, false, false, false, false, false] HT_ ?_
       refine pT_ 5 (some 63) #[true, false, true, false, false, true, false, false, false, false, false, false, false] HT_ ?_
       refine pT_ 6 (some 64) #[true, false, true, false, false, true, true, false, false, false, false, false, false] HT_ ?_
       refine pT_ 7 (some 65) #[true, false, true, false, false, true, true, true, false, false, false, false, false] HT_ ?_
       refine tT_ 1 (some 59) #[true, true, true, false, false, true, true, true, false, false, false, false, false] HT_ HW_ hHeld ?_ (hy := by rintro w' ⟨s0, s1, s2, s3⟩; go_simp; with_reducible rfl)
       refine pT_ 3 (some 61) #[true, true, true, true, false, true, true, true, false, false, false, false, false] HT_ ?_
       refine tT_ 4 (some 62) #[true, true, true, true, true, true, true, true, false, false, false, false, false] HT_ HW_ hHeld ?_ (hy := by rintro w' ⟨s0, s1, s2, s3⟩; go_simp; with_reducible rfl)
       refine tT_ 8 (some 66) #[true, true, true, true, true, true, true, true, true, false, false, false, false] HT_ HW_ hHeld ?_ (hy := by rintro w' ⟨s0, s1, s2, s3⟩; go_simp; with_reducible rfl)
       refine pT_ 9 (some 67) #[true, true, true, true, true, true, true, true, true, true, false, false, false] HT_ ?_
       refine pT_ 10 (some 68) #[true, true, true, true, true, true, true, true, true, true, true, false, false] HT_ ?_
       refine pT_ 11 (some 69) #[true, true, true, true, true, true, true, true, true, true, true, true, false] HT_ ?_
       refine pT_ 12 (some 12) #[true, true, true, true, true, true, true, true, true, true, true, true, true] HT_ ?_
       refine done_ (done_of HT_.out (by kernel_rfl)) ?_
       try go_wp2_with (first | ((with_reducible refine gate_callee (f := 39) rfl ?_); refine gL_ (some 73) Try.func39 #[.int .i64 (rd l0_1 x7_1), .int .i64 (wrap64 (Int.tdiv (wrap64 ((rd l0_0 x7_1) * (wrap64 (-(rd l1 x7_1))))) 256)), .int .i64 (rd l0_0 x7_1)] ?_; (with_reducible refine (spec_l17Part.calls (rd l0_1 x7_1) (wrap64 (Int.tdiv (wrap64 ((rd l0_0 x7_1) * (wrap64 (-(rd l1 x7_1))))) 256)) (rd l0_0 x7_1) t136 _ A31.out).mono ?_); rintro e w' ⟨rfl, ⟨nd, rfl⟩⟩; refine ⟨_, rfl, ?_⟩; (try (rw [drewN_self w86]; generalize hq_ : World.drewN w86 _ = w86; have n0_ : Aside0 (Kd.R (Kd.int .i64) 2 w86 w.heap.size (fun k_ => some k_ ≠ (u131001 : Value).ownBlock) u131000 x131000_1) := ⟨by rw [← hq_]; exact (rT_ HO_131000)⟩; have n1_ : Aside0 (Kd.R (Kd.int .i64) 2 w86 w.heap.size (fun k_ => some k_ ≠ (u131000 : Value).ownBlock) u131001 x131001_1) := ⟨by rw [← hq_]; exact (rT_ HO_131001)⟩; have n2_ : Aside0 (w86.heap[gb116]? = some (.cells #[.slice (some ad131) l0_0.length c0_0, .slice (some ad132) l0_1.length c0_1] 26 (0, 0))) := ⟨by rw [← hq_]; exact (bT_ BK116)⟩; have n3_ : Aside0 (w86.heap[gb117]? = some (.cells #[.slice none 0 0, .slice none 0 0] 26 (0, 0))) := ⟨by rw [← hq_]; exact (bT_ BK117)⟩; have n4_ : Aside0 (w86.heap[gb130]? = some (.cells #[u131000, u131001] 26 (0, 0))) := ⟨by rw [← hq_]; exact (bT_ BK130)⟩; have n5_ : Aside0 (Below w.heap.size w w86) := ⟨by rw [← hq_]; exact (by repeat (first | (with_reducible first | exact HB.out | apply below_alloc | apply pw_below_drewN | apply below_drew1 | refine below_set ?_ GE116.out | refine below_set ?_ GE117.out | refine below_set ?_ GE130.out) | exact HB.out))⟩; clear HO_131000 HO_131001 BK116 BK117 BK130 HB hq_; have HO_131000 := n0_; have HO_131001 := n1_; have BK116 := n2_; have BK117 := n3_; have BK130 := n4_; have HB := n5_; clear n0_ n1_ n2_ n3_ n4_ n5_))))
       replace HO_131000 := Aside0.mk (Kd.R_drew HO_131000.out)
       replace HO_131001 := Aside0.mk (Kd.R_drew HO_131001.out)
       replace BK116 := Aside0.mk (blk_drew BK116.out)
       replace BK117 := Aside0.mk (blk_drew BK117.out)
       replace BK130 := Aside0.mk (blk_drew BK130.out)
       replace HB := Aside0.mk (below_drew1 HB.out)
       obtain ⟨Ao88, co88, eo88⟩ := Kd.R_slice HO_131000.out
       (first | subst eo88 | (injection eo88 with f1_ f2_ f3_; have f4_ := f1_.symm; have f5_ := f3_.symm; clear f1_ f2_ f3_; subst f4_; subst f5_))
       have p137 : 0 ≤ (x7_1 : Int) := of_decide_eq_true (by first | (with_reducible assumption) | assumption)
       have q137 : x7_1 < (x131000_1.length : Int) := of_decide_eq_true (by first | (with_reducible assumption) | assumption)
       obtain ⟨ad137, e137, hx137_0⟩ := Kd.at_int (Kd.R_reads' HO_131000.out).2.2 x7_1 p137 q137
       cases e137
       replace p137 := eq_true p137; replace q137 := eq_true q137
       have p33 : 0 ≤ (x7_1 : Int) := of_decide_eq_true (by first | (with_reducible assumption) | assumption)
       have q33 : (x7_1 : Int) < ((x131000_1.length : Int) : Int) := of_decide_eq_true (by first | (with_reducible assumption) | assumption)
       obtain ⟨go33, co33, eo33, gb33, gl33, cl33, HG33⟩ := Kd.R_form HO_131000.out (by omega)
       (first | cases eo33 | (injection eo33 with ea_ en_ ec_; (first | subst ea_ | (injection ea_ with ea_; subst ea_)); subst ec_; clear en_))
       have GB33 := Aside0.mk gb33; have GG33 := Aside0.mk HG33; clear gb33 gl33 HG33
       (first | simp only [add_plain] at hx137_0 | skip)
       obtain ⟨hx33_0, hf33_0⟩ := Kd.R_celln 0 HO_131000.out (x7_1 : Int) p33 q33
       replace p33 := eq_true p33; replace q33 := eq_true q33
       have HP89 := Kd.R_putn HO_131000.out (x7_1 : Int) (wrap64 ((rd x131000_1 x7_1) - (wrap64 (Int.tdiv (wrap64 ((rd l0_0 x7_1) * (wrap64 (-(rd l1 x7_1))))) 256))))
       rw [← Ny138.out] at HP89
       have HQ89 := Aside0.mk HP89; clear HP89
       refine start_ (n := 12) (S := fun w' => w'.cell? ⟨gb130, 0, none⟩ = some (.slice (some ⟨go33, 0, none⟩) x131000_1.length co88) ∧ w'.cell? ⟨gb130, 1, none⟩ = some (u131001) ∧ w'.cell? ⟨go33, (x7_1).toNat, none⟩ = some (.int .i64 (rd x131000_1 x7_1))) (ds := [11]) #[false, false, false, false, false, false, false, false, false, false, false, false] (by kernel_rfl) rfl rfl ⟨(blk_cell BK130.out 0).trans rfl, (blk_cell BK130.out 1).trans rfl, hx137_0⟩ (fun hHeld => ?_); refine with_tabW spec_l17Step.tab13 spec_l17Step.bits13 (fun HT_ HW_ => ?_)
       generalize w86.drew = w87 at HO_131000 HO_131001 BK116 BK117 BK130 HB GG33 HQ89 hf33_0 hx137_0 hx33_0 hHeld ⊢
       refine pT_ 0 (some 74) #[true, false, false, false, false, false, false, false, false, false, false, false] HT_ ?_
       refine pT_ 2 (some 76) #[true, false, true, false, false, false, false, false, false, false, false, false] HT_ ?_
       refine pT_ 3 (some 77) #[true, false, true, true, false, false, false, false, false, false, false, false] HT_ ?_
       refine pT_ 5 (some 79) #[true, false, true, true, false, true, false, false, false, false, false, false] HT_ ?_
       refine pT_ 8 (some 82) #[true, false, true, true, false, true, false, false, true, false, false, false] HT_ ?_
       refine tT_ 1 (some 75) #[true, true, true, true, false, true, false, false, true, false, false, false] HT_ HW_ hHeld ?_ (hy := by rintro w' ⟨s0, s1, s2⟩; go_simp; with_reducible rfl)
       refine tT_ 4 (some 78) #[true, true, true, true, true, true, false, false, true, false, false, false] HT_ HW_ hHeld ?_ (hy := by rintro w' ⟨s0, s1, s2⟩; go_simp; with_reducible rfl)
       refine pT_ 6 (some 80) #[true, true, true, true, true, true, true, false, true, false, false, false] HT_ ?_
       refine tT_ 7 (some 81) #[true, true, true, true, true, true, true, true, true, false, false, false] HT_ HW_ hHeld ?_ (hy := by rintro w' ⟨s0, s1, s2⟩; go_simp; with_reducible rfl)
       refine pT_ 9 (some 83) #[true, true, true, true, true, true, true, true, true, true, false, false] HT_ ?_
       refine pT_ 10 (some 84) #[true, true, true, true, true, true, true, true, true, true, true, false] HT_ ?_
       refine last_ (i := 11) (N := none) #[true, true, true, true, true, true, true, true, true, true, true, true] rfl rfl (one_of HT_.out (by kernel_rfl)) (by decide) (fun K hK => ?_)
       refine skip_ (w1 := ?_) (by rfl) rfl ?_ ?_
       rotate_left
       ·go_simp
        rfl
       refine hK.out _ _ ?_
       clear hK K
       refine done_ (done_of HT_.out (by kernel_rfl)) ?_
       try go_wp2
       have n0_ : Aside0 (Kd.R (Kd.int .i64) 2 (w87.setCell ⟨go33, (x7_1 : Int).toNat, none⟩ (.int .i64 (wrap64 ((rd x131000_1 x7_1) - (wrap64 (Int.tdiv (wrap64 ((rd l0_0 x7_1) * (wrap64 (-(rd l1 x7_1))))) 256)))))) w.heap.size (fun k_ => some k_ ≠ (u131001 : Value).ownBlock) (.slice (some ⟨go33, 0, none⟩) x131000_1.length co88) y138) := ⟨by (with_reducible repeat (first | apply Kd.R_alloc | apply Kd.R_drewN | apply Kd.R_drew)); exact HQ89.out⟩
       have n1_ : Aside0 (Kd.R (Kd.int .i64) 2 (w87.setCell ⟨go33, (x7_1 : Int).toNat, none⟩ (.int .i64 (wrap64 ((rd x131000_1 x7_1) - (wrap64 (Int.tdiv (wrap64 ((rd l0_0 x7_1) * (wrap64 (-(rd l1 x7_1))))) 256)))))) w.heap.size (fun k_ => some k_ ≠ (.slice (some ⟨go33, 0, none⟩) x131000_1.length co88 : Value).ownBlock) u131001 x131001_1) := ⟨by (with_reducible repeat (first | apply Kd.R_alloc | apply Kd.R_drewN | apply Kd.R_drew)); exact Kd.R_mono (Kd.R_far (p := ⟨go33, (x7_1 : Int).toNat, none⟩) (Kd.R_mono HO_131001.out (fun k_ hk => (⟨hk, fun e_ => hk (by rw [e_]; rfl)⟩ : _ ∧ k_ ≠ go33))) (fun _ hk => hk.2) (.int .i64 (wrap64 ((rd x131000_1 x7_1) - (wrap64 (Int.tdiv (wrap64 ((rd l0_0 x7_1) * (wrap64 (-(rd l1 x7_1))))) 256)))))) (fun _ hk => hk.1)⟩
       have n2_ : Aside0 ((w87.setCell ⟨go33, (x7_1 : Int).toNat, none⟩ (.int .i64 (wrap64 ((rd x131000_1 x7_1) - (wrap64 (Int.tdiv (wrap64 ((rd l0_0 x7_1) * (wrap64 (-(rd l1 x7_1))))) 256)))))).heap[gb116]? = some (.cells #[.slice (some ad131) l0_0.length c0_0, .slice (some ad132) l0_1.length c0_1] 26 (0, 0))) := ⟨by (with_reducible repeat (first | refine blk_drewN ?_ _ | refine blk_drew ?_ | refine blk_alloc ?_ _)); refine blk_far ?_ (by have h_ := Kd.R_ne HO_131000.out BK116.out (by decide); intro e_; exact h_ (by rw [e_]; rfl)) _; exact bT_ BK116⟩
       have n3_ : Aside0 ((w87.setCell ⟨go33, (x7_1 : Int).toNat, none⟩ (.int .i64 (wrap64 ((rd x131000_1 x7_1) - (wrap64 (Int.tdiv (wrap64 ((rd l0_0 x7_1) * (wrap64 (-(rd l1 x7_1))))) 256)))))).heap[gb117]? = some (.cells #[.slice none 0 0, .slice none 0 0] 26 (0, 0))) := ⟨by (with_reducible repeat (first | refine blk_drewN ?_ _ | refine blk_drew ?_ | refine blk_alloc ?_ _)); refine blk_far ?_ (by have h_ := Kd.R_ne HO_131000.out BK117.out (by decide); intro e_; exact h_ (by rw [e_]; rfl)) _; exact bT_ BK117⟩
       have n4_ : Aside0 ((w87.setCell ⟨go33, (x7_1 : Int).toNat, none⟩ (.int .i64 (wrap64 ((rd x131000_1 x7_1) - (wrap64 (Int.tdiv (wrap64 ((rd l0_0 x7_1) * (wrap64 (-(rd l1 x7_1))))) 256)))))).heap[gb130]? = some (.cells #[.slice (some ⟨go33, 0, none⟩) x131000_1.length co88, u131001] 26 (0, 0))) := ⟨by (with_reducible repeat (first | refine blk_drewN ?_ _ | refine blk_drew ?_ | refine blk_alloc ?_ _)); refine blk_far ?_ (by have h_ := Kd.R_ne HO_131000.out BK130.out (by decide); intro e_; exact h_ (by rw [e_]; rfl)) _; exact bT_ BK130⟩
       have n5_ : Aside0 (Below w.heap.size w (w87.setCell ⟨go33, (x7_1 : Int).toNat, none⟩ (.int .i64 (wrap64 ((rd x131000_1 x7_1) - (wrap64 (Int.tdiv (wrap64 ((rd l0_0 x7_1) * (wrap64 (-(rd l1 x7_1))))) 256))))))) := ⟨by repeat (first | (with_reducible first | exact HB.out | apply below_alloc | apply pw_below_drewN | apply below_drew1 | refine below_set ?_ GB33.out | refine below_set ?_ GE116.out | refine below_set ?_ GE117.out | refine below_set ?_ GE130.out) | exact HB.out)⟩
       (try clear HO_131000); (try clear HO_131001); (try clear BK116); (try clear BK117); (try clear BK130); (try clear HB)
       generalize (w87.setCell ⟨go33, (x7_1 : Int).toNat, none⟩ (.int .i64 (wrap64 ((rd x131000_1 x7_1) - (wrap64 (Int.tdiv (wrap64 ((rd l0_0 x7_1) * (wrap64 (-(rd l1 x7_1))))) 256)))))) = w90 at n0_ n1_ n2_ n3_ n4_ n5_ ⊢
       have HO_131000 := n0_; have HO_131001 := n1_; have BK116 := n2_; have BK117 := n3_; have BK130 := n4_; have HB := n5_; clear n0_ n1_ n2_ n3_ n4_ n5_
       replace HO_131000 := Aside0.mk (Kd.R_drew HO_131000.out)
       replace HO_131001 := Aside0.mk (Kd.R_drew HO_131001.out)
       replace BK116 := Aside0.mk (blk_drew BK116.out)
       replace BK117 := Aside0.mk (blk_drew BK117.out)
       replace BK130 := Aside0.mk (blk_drew BK130.out)
       replace HB := Aside0.mk (below_drew1 HB.out)
       have p139 : 0 ≤ ((ji34) : Int) := of_decide_eq_true (by first | (with_reducible assumption) | assumption)
       have q139 : (ji34) < (y138.length : Int) := (by have h_ : ((ji34) : Int) < ((x131000_1.length : Int) : Int) := of_decide_eq_true (by first | (with_reducible assumption) | assumption); first | (have e_ := (Kd.R_reads' HO_131000.out).1; omega) | simpa only [Ny138.out, List.length_set] using h_)
       have ql139 : (((ji34) : Int) < ((x131000_1.length : Int) : Int)) = True := eq_true (of_decide_eq_true (by first | (with_reducible assumption) | assumption))
       obtain ⟨ad139, e139, hx139_0⟩ := Kd.at_int (Kd.R_reads' HO_131000.out).2.2 (ji34) p139 q139
       obtain rfl : (⟨go33, 0, none⟩ : Addr) = ad139 := (by injection e139)
       (first | simp only [add_plain] at hx139_0 | simp only [add_at] at hx139_0 | simp only [Addr.add, Nat.zero_add] at hx139_0 | skip)
       replace p139 := eq_true p139; replace q139 := eq_true q139
       have p37 : 0 ≤ ((ji34) : Int) := of_decide_eq_true (by first | (with_reducible assumption) | assumption)
       have q37 : ((ji34) : Int) < ((x131000_1.length : Int) : Int) := of_decide_eq_true (by first | (with_reducible assumption) | assumption)
       obtain ⟨hx37_0, hf37_0⟩ := Kd.R_celln 0 HO_131000.out ((ji34) : Int) p37 q37
       replace p37 := eq_true p37; replace q37 := eq_true q37
       have HP92 := Kd.R_putn HO_131000.out ((ji34) : Int) (wrap64 ((rd y138 (ji34)) + (wrap64 (Int.tdiv (wrap64 ((rd l0_0 x7_1) * (wrap64 (-(rd l1 x7_1))))) 256))))
       rw [← Ny140.out] at HP92
       have HQ92 := Aside0.mk HP92; clear HP92
       refine start_ (n := 12) (S := fun w' => w'.cell? ⟨gb130, 0, none⟩ = some (.slice (some ⟨go33, 0, none⟩) x131000_1.length co88) ∧ w'.cell? ⟨gb130, 1, none⟩ = some (u131001) ∧ w'.cell? ⟨go33, ((ji34)).toNat, none⟩ = some (.int .i64 (rd y138 (ji34)))) (ds := [11]) #[false, false, false, false, false, false, false, false, false, false, false, false] (by kernel_rfl) rfl rfl ⟨(blk_cell BK130.out 0).trans rfl, (blk_cell BK130.out 1).trans rfl, hx139_0⟩ (fun hHeld => ?_); refine with_tabW spec_l17Step.tab14 spec_l17Step.bits14 (fun HT_ HW_ => ?_)
       generalize w90.drew = w91 at HO_131000 HO_131001 BK116 BK117 BK130 HB HQ89 HQ92 hf37_0 hx139_0 hx37_0 hHeld ⊢
       refine pT_ 0 (some 85) #[true, false, false, false, false, false, false, false, false, false, false, false] HT_ ?_
       refine pT_ 2 (some 87) #[true, false, true, false, false, false, false, false, false, false, false, false] HT_ ?_
       refine pT_ 3 (some 88) #[true, false, true, true, false, false, false, false, false, false, false, false] HT_ ?_
       refine pT_ 5 (some 90) #[true, false, true, true, false, true, false, false, false, false, false, false] HT_ ?_
       refine pT_ 8 (some 93) #[true, false, true, true, false, true, false, false, true, false, false, false] HT_ ?_
       refine tT_ 1 (some 86) #[true, true, true, true, false, true, false, false, true, false, false, false] HT_ HW_ hHeld ?_ (hy := by rintro w' ⟨s0, s1, s2⟩; go_simp; with_reducible rfl)
       refine tT_ 4 (some 89) #[true, true, true, true, true, true, false, false, true, false, false, false] HT_ HW_ hHeld ?_ (hy := by rintro w' ⟨s0, s1, s2⟩; go_simp; with_reducible rfl)
       refine pT_ 6 (some 91) #[true, true, true, true, true, true, true, false, true, false, false, false] HT_ ?_
       refine tT_ 7 (some 92) #[true, true, true, true, true, true, true, true, true, false, false, false] HT_ HW_ hHeld ?_ (hy := by rintro w' ⟨s0, s1, s2⟩; go_simp; with_reducible rfl)
       refine pT_ 9 (some 94) #[true, true, true, true, true, true, true, true, true, true, false, false] HT_ ?_
       refine pT_ 10 (some 95) #[true, true, true, true, true, true, true, true, true, true, true, false] HT_ ?_
       refine last_ (i := 11) (N := none) #[true, true, true, true, true, true, true, true, true, true, true, true] rfl rfl (one_of HT_.out (by kernel_rfl)) (by decide) (fun K hK => ?_)
       refine skip_ (w1 := ?_) (by rfl) rfl ?_ ?_
       rotate_left
       ·go_simp
        rfl
       refine hK.out _ _ ?_
       clear hK K
       refine done_ (done_of HT_.out (by kernel_rfl)) ?_
       try go_wp2
       have n0_ : Aside0 (Kd.R (Kd.int .i64) 2 (w91.setCell ⟨go33, ((ji34) : Int).toNat, none⟩ (.int .i64 (wrap64 ((rd y138 (ji34)) + (wrap64 (Int.tdiv (wrap64 ((rd l0_0 x7_1) * (wrap64 (-(rd l1 x7_1))))) 256)))))) w.heap.size (fun k_ => some k_ ≠ (u131001 : Value).ownBlock) (.slice (some ⟨go33, 0, none⟩) x131000_1.length co88) y140) := ⟨by (with_reducible repeat (first | apply Kd.R_alloc | apply Kd.R_drewN | apply Kd.R_drew)); exact HQ92.out⟩
       have n1_ : Aside0 (Kd.R (Kd.int .i64) 2 (w91.setCell ⟨go33, ((ji34) : Int).toNat, none⟩ (.int .i64 (wrap64 ((rd y138 (ji34)) + (wrap64 (Int.tdiv (wrap64 ((rd l0_0 x7_1) * (wrap64 (-(rd l1 x7_1))))) 256)))))) w.heap.size (fun k_ => some k_ ≠ (.slice (some ⟨go33, 0, none⟩) x131000_1.length co88 : Value).ownBlock) u131001 x131001_1) := ⟨by (with_reducible repeat (first | apply Kd.R_alloc | apply Kd.R_drewN | apply Kd.R_drew)); exact Kd.R_mono (Kd.R_far (p := ⟨go33, ((ji34) : Int).toNat, none⟩) (Kd.R_mono HO_131001.out (fun k_ hk => (⟨hk, fun e_ => hk (by rw [e_]; rfl)⟩ : _ ∧ k_ ≠ go33))) (fun _ hk => hk.2) (.int .i64 (wrap64 ((rd y138 (ji34)) + (wrap64 (Int.tdiv (wrap64 ((rd l0_0 x7_1) * (wrap64 (-(rd l1 x7_1))))) 256)))))) (fun _ hk => hk.1)⟩
       have n2_ : Aside0 ((w91.setCell ⟨go33, ((ji34) : Int).toNat, none⟩ (.int .i64 (wrap64 ((rd y138 (ji34)) + (wrap64 (Int.tdiv (wrap64 ((rd l0_0 x7_1) * (wrap64 (-(rd l1 x7_1))))) 256)))))).heap[gb116]? = some (.cells #[.slice (some ad131) l0_0.length c0_0, .slice (some ad132) l0_1.length c0_1] 26 (0, 0))) := ⟨by (with_reducible repeat (first | refine blk_drewN ?_ _ | refine blk_drew ?_ | refine blk_alloc ?_ _)); refine blk_far ?_ (by have h_ := Kd.R_ne HO_131000.out BK116.out (by decide); intro e_; exact h_ (by rw [e_]; rfl)) _; exact bT_ BK116⟩
       have n3_ : Aside0 ((w91.setCell ⟨go33, ((ji34) : Int).toNat, none⟩ (.int .i64 (wrap64 ((rd y138 (ji34)) + (wrap64 (Int.tdiv (wrap64 ((rd l0_0 x7_1) * (wrap64 (-(rd l1 x7_1))))) 256)))))).heap[gb117]? = some (.cells #[.slice none 0 0, .slice none 0 0] 26 (0, 0))) := ⟨by (with_reducible repeat (first | refine blk_drewN ?_ _ | refine blk_drew ?_ | refine blk_alloc ?_ _)); refine blk_far ?_ (by have h_ := Kd.R_ne HO_131000.out BK117.out (by decide); intro e_; exact h_ (by rw [e_]; rfl)) _; exact bT_ BK117⟩
       have n4_ : Aside0 ((w91.setCell ⟨go33, ((ji34) : Int).toNat, none⟩ (.int .i64 (wrap64 ((rd y138 (ji34)) + (wrap64 (Int.tdiv (wrap64 ((rd l0_0 x7_1) * (wrap64 (-(rd l1 x7_1))))) 256)))))).heap[gb130]? = some (.cells #[.slice (some ⟨go33, 0, none⟩) x131000_1.length co88, u131001] 26 (0, 0))) := ⟨by (with_reducible repeat (first | refine blk_drewN ?_ _ | refine blk_drew ?_ | refine blk_alloc ?_ _)); refine blk_far ?_ (by have h_ := Kd.R_ne HO_131000.out BK130.out (by decide); intro e_; exact h_ (by rw [e_]; rfl)) _; exact bT_ BK130⟩
       have n5_ : Aside0 (Below w.heap.size w (w91.setCell ⟨go33, ((ji34) : Int).toNat, none⟩ (.int .i64 (wrap64 ((rd y138 (ji34)) + (wrap64 (Int.tdiv (wrap64 ((rd l0_0 x7_1) * (wrap64 (-(rd l1 x7_1))))) 256))))))) := ⟨by repeat (first | (with_reducible first | exact HB.out | apply below_alloc | apply pw_below_drewN | apply below_drew1 | refine below_set ?_ GB33.out | refine below_set ?_ GE116.out | refine below_set ?_ GE117.out | refine below_set ?_ GE130.out) | exact HB.out)⟩
       (try clear HO_131000); (try clear HO_131001); (try clear BK116); (try clear BK117); (try clear BK130); (try clear HB)
       generalize (w91.setCell ⟨go33, ((ji34) : Int).toNat, none⟩ (.int .i64 (wrap64 ((rd y138 (ji34)) + (wrap64 (Int.tdiv (wrap64 ((rd l0_0 x7_1) * (wrap64 (-(rd l1 x7_1))))) 256)))))) = w93 at n0_ n1_ n2_ n3_ n4_ n5_ ⊢
       have HO_131000 := n0_; have HO_131001 := n1_; have BK116 := n2_; have BK117 := n3_; have BK130 := n4_; have HB := n5_; clear n0_ n1_ n2_ n3_ n4_ n5_
       replace HO_131000 := Aside0.mk (Kd.R_drew HO_131000.out)
       replace HO_131001 := Aside0.mk (Kd.R_drew HO_131001.out)
       replace BK116 := Aside0.mk (blk_drew BK116.out)
       replace BK117 := Aside0.mk (blk_drew BK117.out)
       replace BK130 := Aside0.mk (blk_drew BK130.out)
       replace HB := Aside0.mk (below_drew1 HB.out)
       obtain ⟨Ao95, co95, eo95⟩ := Kd.R_slice HO_131001.out
       (first | subst eo95 | (injection eo95 with f1_ f2_ f3_; have f4_ := f1_.symm; have f5_ := f3_.symm; clear f1_ f2_ f3_; subst f4_; subst f5_))
       have p141 : 0 ≤ (x7_1 : Int) := of_decide_eq_true (by first | (with_reducible assumption) | assumption)
       have q141 : x7_1 < (x131001_1.length : Int) := of_decide_eq_true (by first | (with_reducible assumption) | assumption)
       obtain ⟨ad141, e141, hx141_0⟩ := Kd.at_int (Kd.R_reads' HO_131001.out).2.2 x7_1 p141 q141
       cases e141
       replace p141 := eq_true p141; replace q141 := eq_true q141
       have p39 : 0 ≤ (x7_1 : Int) := of_decide_eq_true (by first | (with_reducible assumption) | assumption)
       have q39 : (x7_1 : Int) < ((x131001_1.length : Int) : Int) := of_decide_eq_true (by first | (with_reducible assumption) | assumption)
       obtain ⟨go39, co39, eo39, gb39, gl39, cl39, HG39⟩ := Kd.R_form HO_131001.out (by omega)
       (first | cases eo39 | (injection eo39 with ea_ en_ ec_; (first | subst ea_ | (injection ea_ with ea_; subst ea_)); subst ec_; clear en_))
       have GB39 := Aside0.mk gb39; have GG39 := Aside0.mk HG39; clear gb39 gl39 HG39
       (first | simp only [add_plain] at hx141_0 | skip)
       obtain ⟨hx39_0, hf39_0⟩ := Kd.R_celln 0 HO_131001.out (x7_1 : Int) p39 q39
       replace p39 := eq_true p39; replace q39 := eq_true q39
       have HP96 := Kd.R_putn HO_131001.out (x7_1 : Int) (wrap64 ((rd x131001_1 x7_1) - t136))
       rw [← Ny142.out] at HP96
       have HQ96 := Aside0.mk HP96; clear HP96
       refine start_ (n := 12) (S := fun w' => w'.cell? ⟨gb130, 0, none⟩ = some (.slice (some ⟨go33, 0, none⟩) x131000_1.length co88) ∧ w'.cell? ⟨gb130, 1, none⟩ = some (.slice (some ⟨go39, 0, none⟩) x131001_1.length co95) ∧ w'.cell? ⟨go39, (x7_1).toNat, none⟩ = some (.int .i64 (rd x131001_1 x7_1))) (ds := [11]) #[false, false, false, false, false, false, false, false, false, false, false, false] (by kernel_rfl) rfl rfl ⟨(blk_cell BK130.out 0).trans rfl, (blk_cell BK130.out 1).trans rfl, hx141_0⟩ (fun hHeld => ?_); refine with_tabW spec_l17Step.tab15 spec_l17Step.bits15 (fun HT_ HW_ => ?_)
       generalize w93.drew = w94 at HO_131000 HO_131001 BK116 BK117 BK130 HB GG39 HQ92 HQ96 hf39_0 hx141_0 hx39_0 hHeld ⊢
       refine pT_ 0 (some 96) #[true, false, false, false, false, false, false, false, false, false, false, false] HT_ ?_
       refine pT_ 2 (some 98) #[true, false, true, false, false, false, false, false, false, false, false, false] HT_ ?_
       refine pT_ 3 (some 99) #[true, false, true, true, false, false, false, false, false, false, false, false] HT_ ?_
       refine pT_ 5 (some 101) #[true, false, true, true, false, true, false, false, false, false, false, false] HT_ ?_
       refine pT_ 8 (some 104) #[true, false, true, true, false, true, false, false, true, false, false, false] HT_ ?_
       refine tT_ 1 (some 97) #[true, true, true, true, false, true, false, false, true, false, false, false] HT_ HW_ hHeld ?_ (hy := by rintro w' ⟨s0, s1, s2⟩; go_simp; with_reducible rfl)
       refine tT_ 4 (some 100) #[true, true, true, true, true, true, false, false, true, false, false, false] HT_ HW_ hHeld ?_ (hy := by rintro w' ⟨s0, s1, s2⟩; go_simp; with_reducible rfl)
       refine pT_ 6 (some 102) #[true, true, true, true, true, true, true, false, true, false, false, false] HT_ ?_
       refine tT_ 7 (some 103) #[true, true, true, true, true, true, true, true, true, false, false, false] HT_ HW_ hHeld ?_ (hy := by rintro w' ⟨s0, s1, s2⟩; go_simp; with_reducible rfl)
       refine pT_ 9 (some 105) #[true, true, true, true, true, true, true, true, true, true, false, false] HT_ ?_
       refine pT_ 10 (some 106) #[true, true, true, true, true, true, true, true, true, true, true, false] HT_ ?_
       refine last_ (i := 11) (N := none) #[true, true, true, true, true, true, true, true, true, true, true, true] rfl rfl (one_of HT_.out (by kernel_rfl)) (by decide) (fun K hK => ?_)
       refine skip_ (w1 := ?_) (by rfl) rfl ?_ ?_
       rotate_left
       ·go_simp
        rfl
       refine hK.out _ _ ?_
       clear hK K
       refine done_ (done_of HT_.out (by kernel_rfl)) ?_
       try go_wp2
       have n0_ : Aside0 (Kd.R (Kd.int .i64) 2 (w94.setCell ⟨go39, (x7_1 : Int).toNat, none⟩ (.int .i64 (wrap64 ((rd x131001_1 x7_1) - t136)))) w.heap.size (fun k_ => some k_ ≠ (.slice (some ⟨go39, 0, none⟩) x131001_1.length co95 : Value).ownBlock) (.slice (some ⟨go33, 0, none⟩) x131000_1.length co88) y140) := ⟨by (with_reducible repeat (first | apply Kd.R_alloc | apply Kd.R_drewN | apply Kd.R_drew)); exact Kd.R_mono (Kd.R_far (p := ⟨go39, (x7_1 : Int).toNat, none⟩) (Kd.R_mono HO_131000.out (fun k_ hk => (⟨hk, fun e_ => hk (by rw [e_]; rfl)⟩ : _ ∧ k_ ≠ go39))) (fun _ hk => hk.2) (.int .i64 (wrap64 ((rd x131001_1 x7_1) - t136)))) (fun _ hk => hk.1)⟩
       have n1_ : Aside0 (Kd.R (Kd.int .i64) 2 (w94.setCell ⟨go39, (x7_1 : Int).toNat, none⟩ (.int .i64 (wrap64 ((rd x131001_1 x7_1) - t136)))) w.heap.size (fun k_ => some k_ ≠ (.slice (some ⟨go33, 0, none⟩) x131000_1.length co88 : Value).ownBlock) (.slice (some ⟨go39, 0, none⟩) x131001_1.length co95) y142) := ⟨by (with_reducible repeat (first | apply Kd.R_alloc | apply Kd.R_drewN | apply Kd.R_drew)); exact HQ96.out⟩
       have n2_ : Aside0 ((w94.setCell ⟨go39, (x7_1 : Int).toNat, none⟩ (.int .i64 (wrap64 ((rd x131001_1 x7_1) - t136)))).heap[gb116]? = some (.cells #[.slice (some ad131) l0_0.length c0_0, .slice (some ad132) l0_1.length c0_1] 26 (0, 0))) := ⟨by (with_reducible repeat (first | refine blk_drewN ?_ _ | refine blk_drew ?_ | refine blk_alloc ?_ _)); refine blk_far ?_ (by have h_ := Kd.R_ne HO_131001.out BK116.out (by decide); intro e_; exact h_ (by rw [e_]; rfl)) _; exact bT_ BK116⟩
       have n3_ : Aside0 ((w94.setCell ⟨go39, (x7_1 : Int).toNat, none⟩ (.int .i64 (wrap64 ((rd x131001_1 x7_1) - t136)))).heap[gb117]? = some (.cells #[.slice none 0 0, .slice none 0 0] 26 (0, 0))) := ⟨by (with_reducible repeat (first | refine blk_drewN ?_ _ | refine blk_drew ?_ | refine blk_alloc ?_ _)); refine blk_far ?_ (by have h_ := Kd.R_ne HO_131001.out BK117.out (by decide); intro e_; exact h_ (by rw [e_]; rfl)) _; exact bT_ BK117⟩
       have n4_ : Aside0 ((w94.setCell ⟨go39, (x7_1 : Int).toNat, none⟩ (.int .i64 (wrap64 ((rd x131001_1 x7_1) - t136)))).heap[gb130]? = some (.cells #[.slice (some ⟨go33, 0, none⟩) x131000_1.length co88, .slice (some ⟨go39, 0, none⟩) x131001_1.length co95] 26 (0, 0))) := ⟨by (with_reducible repeat (first | refine blk_drewN ?_ _ | refine blk_drew ?_ | refine blk_alloc ?_ _)); refine blk_far ?_ (by have h_ := Kd.R_ne HO_131001.out BK130.out (by decide); intro e_; exact h_ (by rw [e_]; rfl)) _; exact bT_ BK130⟩
       have n5_ : Aside0 (Below w.heap.size w (w94.setCell ⟨go39, (x7_1 : Int).toNat, none⟩ (.int .i64 (wrap64 ((rd x131001_1 x7_1) - t136))))) := ⟨by repeat (first | (with_reducible first | exact HB.out | apply below_alloc | apply pw_below_drewN | apply below_drew1 | refine below_set ?_ GB39.out | refine below_set ?_ GE116.out | refine below_set ?_ GE117.out | refine below_set ?_ GE130.out) | exact HB.out)⟩
       (try clear HO_131000); (try clear HO_131001); (try clear BK116); (try clear BK117); (try clear BK130); (try clear HB)
       generalize (w94.setCell ⟨go39, (x7_1 : Int).toNat, none⟩ (.int .i64 (wrap64 ((rd x131001_1 x7_1) - t136)))) = w97 at n0_ n1_ n2_ n3_ n4_ n5_ ⊢
       have HO_131000 := n0_; have HO_131001 := n1_; have BK116 := n2_; have BK117 := n3_; have BK130 := n4_; have HB := n5_; clear n0_ n1_ n2_ n3_ n4_ n5_
       replace HO_131000 := Aside0.mk (Kd.R_drew HO_131000.out)
       replace HO_131001 := Aside0.mk (Kd.R_drew HO_131001.out)
       replace BK116 := Aside0.mk (blk_drew BK116.out)
       replace BK117 := Aside0.mk (blk_drew BK117.out)
       replace BK130 := Aside0.mk (blk_drew BK130.out)
       replace HB := Aside0.mk (below_drew1 HB.out)
       have p143 : 0 ≤ ((ji34) : Int) := of_decide_eq_true (by first | (with_reducible assumption) | assumption)
       have q143 : (ji34) < (y142.length : Int) := (by have h_ : ((ji34) : Int) < ((x131001_1.length : Int) : Int) := of_decide_eq_true (by first | (with_reducible assumption) | assumption); first | (have e_ := (Kd.R_reads' HO_131001.out).1; omega) | simpa only [Ny142.out, List.length_set] using h_)
       have ql143 : (((ji34) : Int) < ((x131001_1.length : Int) : Int)) = True := eq_true (of_decide_eq_true (by first | (with_reducible assumption) | assumption))
       obtain ⟨ad143, e143, hx143_0⟩ := Kd.at_int (Kd.R_reads' HO_131001.out).2.2 (ji34) p143 q143
       obtain rfl : (⟨go39, 0, none⟩ : Addr) = ad143 := (by injection e143)
       (first | simp only [add_plain] at hx143_0 | simp only [add_at] at hx143_0 | simp only [Addr.add, Nat.zero_add] at hx143_0 | skip)
       replace p143 := eq_true p143; replace q143 := eq_true q143
       have p41 : 0 ≤ ((ji34) : Int) := of_decide_eq_true (by first | (with_reducible assumption) | assumption)
       have q41 : ((ji34) : Int) < ((x131001_1.length : Int) : Int) := of_decide_eq_true (by first | (with_reducible assumption) | assumption)
       obtain ⟨hx41_0, hf41_0⟩ := Kd.R_celln 0 HO_131001.out ((ji34) : Int) p41 q41
       replace p41 := eq_true p41; replace q41 := eq_true q41
       have HP99 := Kd.R_putn HO_131001.out ((ji34) : Int) (wrap64 ((rd y142 (ji34)) + t136))
       rw [← Ny144.out] at HP99
       have HQ99 := Aside0.mk HP99; clear HP99
       refine start_ (n := 12) (S := fun w' => w'.cell? ⟨gb130, 0, none⟩ = some (.slice (some ⟨go33, 0, none⟩) x131000_1.length co88) ∧ w'.cell? ⟨gb130, 1, none⟩ = some (.slice (some ⟨go39, 0, none⟩) x131001_1.length co95) ∧ w'.cell? ⟨go39, ((ji34)).toNat, none⟩ = some (.int .i64 (rd y142 (ji34)))) (ds := [11]) #[false, false, false, false, false, false, false, false, false, false, false, false] (by kernel_rfl) rfl rfl ⟨(blk_cell BK130.out 0).trans rfl, (blk_cell BK130.out 1).trans rfl, hx143_0⟩ (fun hHeld => ?_); refine with_tabW spec_l17Step.tab16 spec_l17Step.bits16 (fun HT_ HW_ => ?_)
       generalize w97.drew = w98 at HO_131000 HO_131001 BK116 BK117 BK130 HB HQ96 HQ99 hf41_0 hx143_0 hx41_0 hHeld ⊢
       refine pT_ 0 (some 107) #[true, false, false, false, false, false, false, false, false, false, false, false] HT_ ?_
       refine pT_ 2 (some 109) #[true, false, true, false, false, false, false, false, false, false, false, false] HT_ ?_
       refine pT_ 3 (some 110) #[true, false, true, true, false, false, false, false, false, false, false, false] HT_ ?_
       refine pT_ 5 (some 112) #[true, false, true, true, false, true, false, false, false, false, false, false] HT_ ?_
       refine pT_ 8 (some 115) #[true, false, true, true, false, true, false, false, true, false, false, false] HT_ ?_
       refine tT_ 1 (some 108) #[true, true, true, true, false, true, false, false, true, false, false, false] HT_ HW_ hHeld ?_ (hy := by rintro w' ⟨s0, s1, s2⟩; go_simp; with_reducible rfl)
       refine tT_ 4 (some 111) #[true, true, true, true, true, true, false, false, true, false, false, false] HT_ HW_ hHeld ?_ (hy := by rintro w' ⟨s0, s1, s2⟩; go_simp; with_reducible rfl)
       refine pT_ 6 (some 113) #[true, true, true, true, true, true, true, false, true, false, false, false] HT_ ?_
       refine tT_ 7 (some 114) #[true, true, true, true, true, true, true, true, true, false, false, false] HT_ HW_ hHeld ?_ (hy := by rintro w' ⟨s0, s1, s2⟩; go_simp; with_reducible rfl)
       refine pT_ 9 (some 116) #[true, true, true, true, true, true, true, true, true, true, false, false] HT_ ?_
       refine pT_ 10 (some 117) #[true, true, true, true, true, true, true, true, true, true, true, false] HT_ ?_
       refine last_ (i := 11) (N := none) #[true, true, true, true, true, true, true, true, true, true, true, true] rfl rfl (one_of HT_.out (by kernel_rfl)) (by decide) (fun K hK => ?_)
       refine skip_ (w1 := ?_) (by rfl) rfl ?_ ?_
       rotate_left
       ·go_simp
        rfl
       refine hK.out _ _ ?_
       clear hK K
       refine done_ (done_of HT_.out (by kernel_rfl)) ?_
       have p145 : 0 ≤ ((ji42) : Int) := of_decide_eq_true (by first | (with_reducible assumption) | assumption)
       have q145 : (ji42) < (l1.length : Int) := of_decide_eq_true (by first | (with_reducible assumption) | assumption)
       obtain ⟨ad145, e145, hx145_0⟩ := Kd.at_int HR1.out (ji42) p145 q145
       obtain rfl : ad133 = ad145 := (by injection e145)
       have hn145_0 : ad133.block ≠ go39 := Nat.ne_of_lt (Nat.lt_of_lt_of_le (by have := World.block_lt_of_cell? _ _ hx145_0; first | rwa [add_block] at this | exact this) GB39.out)
       replace hx145_0 := (HB.out.cell (World.block_lt_of_cell? w _ hx145_0)).trans hx145_0
       replace hx145_0 := (cell_far (p := ⟨go39, ((ji34) : Int).toNat, none⟩) (by first | (rw [add_block]; exact hn145_0) | (show (Addr.add _ _).block ≠ _; rw [add_block]; exact hn145_0) | exact hn145_0) (.int .i64 (wrap64 ((rd y142 (ji34)) + t136)))).trans hx145_0
       clear hn145_0; replace p145 := eq_true p145; replace q145 := eq_true q145
       try go_wp2
       go_roundg k1
       case measure => have := HK1.out; omega
       case rel => exact ⟨(wrap64 (x7_1 + 1)), (y140), (y144), (.slice (some ⟨go33, 0, none⟩) x131000_1.length co88), (.slice (some ⟨go39, 0, none⟩) x131001_1.length co95), (by first | rfl | (simp; done) | (simp [*]; done)), H', ⟨by have := HK1.out; omega⟩, ⟨by (with_reducible repeat (first | apply Kd.R_alloc | apply Kd.R_drewN | apply Kd.R_drew)); exact Kd.R_mono (Kd.R_far (p := ⟨go39, ((ji34) : Int).toNat, none⟩) (Kd.R_mono HO_131000.out (fun k_ hk => (⟨hk, fun e_ => hk (by rw [e_]; rfl)⟩ : _ ∧ k_ ≠ go39))) (fun _ hk => hk.2) (.int .i64 (wrap64 ((rd y142 (ji34)) + t136)))) (fun _ hk => hk.1)⟩, ⟨by (with_reducible repeat (first | apply Kd.R_alloc | apply Kd.R_drewN | apply Kd.R_drew)); exact HQ99.out⟩, ⟨by (with_reducible repeat (first | refine blk_drewN ?_ _ | refine blk_drew ?_ | refine blk_alloc ?_ _)); refine blk_far ?_ (by have h_ := Kd.R_ne HO_131001.out BK116.out (by decide); intro e_; exact h_ (by rw [e_]; rfl)) _; exact bT_ BK116⟩, ⟨by (with_reducible repeat (first | refine blk_drewN ?_ _ | refine blk_drew ?_ | refine blk_alloc ?_ _)); refine blk_far ?_ (by have h_ := Kd.R_ne HO_131001.out BK117.out (by decide); intro e_; exact h_ (by rw [e_]; rfl)) _; exact bT_ BK117⟩, ⟨by (with_reducible repeat (first | refine blk_drewN ?_ _ | refine blk_drew ?_ | refine blk_alloc ?_ _)); refine blk_far ?_ (by have h_ := Kd.R_ne HO_131001.out BK130.out (by decide); intro e_; exact h_ (by rw [e_]; rfl)) _; exact bT_ BK130⟩, ⟨by repeat (first | (with_reducible first | exact HB.out | apply below_alloc | apply pw_below_drewN | apply below_drew1 | refine below_set ?_ GB39.out | refine below_set ?_ GE116.out | refine below_set ?_ GE117.out | refine below_set ?_ GE130.out) | exact HB.out)⟩⟩
     ·rw [if_neg c30] at H
      have c30b0 : decide ((rd l1 x7_1) < 0) = false := decide_eq_false c30
      clear c30
      obtain ⟨ji100, hji100⟩ : ∃ j_ : Int, (Int.tmod (wrap64 (x7_1 + 1)) (l0_0.length : Int)) = j_ := ⟨_, rfl⟩
      replace H : (if 0 ≤ (ji100) then (if (ji100) < (l1.length : Int) then (if (rd l1 (ji100)) > 0 then ((spec_l17Part.f (rd l0_1 x7_1) (wrap64 (Int.tdiv (wrap64 ((rd l0_0 x7_1) * (rd l1 (ji100)))) 256)) (rd l0_0 x7_1)).bind fun t160 => (if x7_1 < (x131000_1.length : Int) then ((some (x131000_1.set (x7_1 : Int).toNat (wrap64 ((rd x131000_1 x7_1) - (wrap64 (Int.tdiv (wrap64 ((rd l0_0 x7_1) * (rd l1 (ji100)))) 256)))) : List Int)).bind fun y162 => (if (ji100) < (x131000_1.length : Int) then (if x7_1 < (x131001_1.length : Int) then ((some (x131001_1.set (x7_1 : Int).toNat (wrap64 ((rd x131001_1 x7_1) - t160)) : List Int)).bind fun y166 => (if (ji100) < (x131001_1.length : Int) then (spec_l17Step.l0 k1 l1 (l0_0.length : Int) (wrap64 (x7_1 + 1)) l0_0 l0_1 (y162.set ((ji100) : Int).toNat (wrap64 ((rd y162 (ji100)) + (wrap64 (Int.tdiv (wrap64 ((rd l0_0 x7_1) * (rd l1 (ji100)))) 256))))) (y166.set ((ji100) : Int).toNat (wrap64 ((rd y166 (ji100)) + t160)))) else (none))) else (none)) else (none))) else (none))) else (spec_l17Step.l0 k1 l1 (l0_0.length : Int) (wrap64 (x7_1 + 1)) l0_0 l0_1 x131000_1 x131001_1)) else (none)) else (none)) = some (r1, r2) := by first | (rw [hji100] at H; exact H) | (simp only [hji100] at H ⊢; exact H)
      obtain ⟨c101, H⟩ := ifS_ H
      have c101b0 : decide (0 ≤ (ji100)) = true := decide_eq_true c101
      clear c101
      obtain ⟨c102, H⟩ := ifS_ H
      have c102b0 : decide ((ji100) < (l1.length : Int)) = true := decide_eq_true c102
      clear c102
      by_cases c103 : (rd l1 (ji100)) > 0
      ·rw [if_pos c103] at H
       have c103b0 : decide (0 < (rd l1 (ji100))) = true := decide_eq_true c103
       clear c103; replace H := Option.bind_eq_some_iff.mp H
       obtain ⟨t160, A1040, H⟩ := H
       replace H : (if x7_1 < (x131000_1.length : Int) then ((some (x131000_1.set (x7_1 : Int).toNat (wrap64 ((rd x131000_1 x7_1) - (wrap64 (Int.tdiv (wrap64 ((rd l0_0 x7_1) * (rd l1 (ji100)))) 256)))) : List Int)).bind fun y162 => (if (ji100) < (x131000_1.length : Int) then (if x7_1 < (x131001_1.length : Int) then ((some (x131001_1.set (x7_1 : Int).toNat (wrap64 ((rd x131001_1 x7_1) - t160)) : List Int)).bind fun y166 => (if (ji100) < (x131001_1.length : Int) then (spec_l17Step.l0 k1 l1 (l0_0.length : Int) (wrap64 (x7_1 + 1)) l0_0 l0_1 (y162.set ((ji100) : Int).toNat (wrap64 ((rd y162 (ji100)) + (wrap64 (Int.tdiv (wrap64 ((rd l0_0 x7_1) * (rd l1 (ji100)))) 256))))) (y166.set ((ji100) : Int).toNat (wrap64 ((rd y166 (ji100)) + t160)))) else (none))) else (none)) else (none))) else (none)) = some (r1, r2) := H
       have A104 := Aside0.mk A1040; clear A1040
       obtain ⟨c105, H⟩ := ifS_ H
       have c105b0 : decide (x7_1 < (x131000_1.length : Int)) = true := decide_eq_true c105
       clear c105
       obtain ⟨y162, hy162⟩ : ∃ y_ : List Int, y_ = (x131000_1.set (x7_1 : Int).toNat (wrap64 ((rd x131000_1 x7_1) - (wrap64 (Int.tdiv (wrap64 ((rd l0_0 x7_1) * (rd l1 (ji100)))) 256))))) := ⟨_, rfl⟩
       replace H : (if (ji100) < (x131000_1.length : Int) then (if x7_1 < (x131001_1.length : Int) then ((some (x131001_1.set (x7_1 : Int).toNat (wrap64 ((rd x131001_1 x7_1) - t160)) : List Int)).bind fun y166 => (if (ji100) < (x131001_1.length : Int) then (spec_l17Step.l0 k1 l1 (l0_0.length : Int) (wrap64 (x7_1 + 1)) l0_0 l0_1 (y162.set ((ji100) : Int).toNat (wrap64 ((rd y162 (ji100)) + (wrap64 (Int.tdiv (wrap64 ((rd l0_0 x7_1) * (rd l1 (ji100)))) 256))))) (y166.set ((ji100) : Int).toNat (wrap64 ((rd y166 (ji100)) + t160)))) else (none))) else (none)) else (none)) = some (r1, r2) := by first | (rw [hy162]; with_reducible exact H) | (have H2_ := (Option.bind_some _ _).symm.trans H; rw [hy162]; with_reducible exact H2_) | (have H2_ := (Option.bind_some _ _).symm.trans H; with_reducible exact H2_) | with_reducible exact H | (rw [hy162]; exact H) | exact H
       have Ny162 := Aside0.mk hy162; clear hy162
       obtain ⟨c107, H⟩ := ifS_ H
       have c107b0 : decide ((ji100) < (x131000_1.length : Int)) = true := decide_eq_true c107
       clear c107
       obtain ⟨y164, hy164⟩ : ∃ y_ : List Int, y_ = (y162.set ((ji100) : Int).toNat (wrap64 ((rd y162 (ji100)) + (wrap64 (Int.tdiv (wrap64 ((rd l0_0 x7_1) * (rd l1 (ji100)))) 256))))) := ⟨_, rfl⟩
       replace H : (if x7_1 < (x131001_1.length : Int) then ((some (x131001_1.set (x7_1 : Int).toNat (wrap64 ((rd x131001_1 x7_1) - t160)) : List Int)).bind fun y166 => (if (ji100) < (x131001_1.length : Int) then (spec_l17Step.l0 k1 l1 (l0_0.length : Int) (wrap64 (x7_1 + 1)) l0_0 l0_1 y164 (y166.set ((ji100) : Int).toNat (wrap64 ((rd y166 (ji100)) + t160)))) else (none))) else (none)) = some (r1, r2) := by first | (rw [hy164]; with_reducible exact H) | (have H2_ := (Option.bind_some _ _).symm.trans H; rw [hy164]; with_reducible exact H2_) | (have H2_ := (Option.bind_some _ _).symm.trans H; with_reducible exact H2_) | with_reducible exact H | (rw [hy164]; exact H) | exact H
       have Ny164 := Aside0.mk hy164; clear hy164
       obtain ⟨c109, H⟩ := ifS_ H
       have c109b0 : decide (x7_1 < (x131001_1.length : Int)) = true := decide_eq_true c109
       clear c109
       obtain ⟨y166, hy166⟩ : ∃ y_ : List Int, y_ = (x131001_1.set (x7_1 : Int).toNat (wrap64 ((rd x131001_1 x7_1) - t160))) := ⟨_, rfl⟩
       replace H : (if (ji100) < (x131001_1.length : Int) then (spec_l17Step.l0 k1 l1 (l0_0.length : Int) (wrap64 (x7_1 + 1)) l0_0 l0_1 y164 (y166.set ((ji100) : Int).toNat (wrap64 ((rd y166 (ji100)) + t160)))) else (none)) = some (r1, r2) := by first | (rw [hy166]; with_reducible exact H) | (have H2_ := (Option.bind_some _ _).symm.trans H; rw [hy166]; with_reducible exact H2_) | (have H2_ := (Option.bind_some _ _).symm.trans H; with_reducible exact H2_) | with_reducible exact H | (rw [hy166]; exact H) | exact H
       have Ny166 := Aside0.mk hy166; clear hy166
       obtain ⟨c111, H⟩ := ifS_ H
       have c111b0 : decide ((ji100) < (x131001_1.length : Int)) = true := decide_eq_true c111
       clear c111
       obtain ⟨y168, hy168⟩ : ∃ y_ : List Int, y_ = (y166.set ((ji100) : Int).toNat (wrap64 ((rd y166 (ji100)) + t160))) := ⟨_, rfl⟩
       replace H : (spec_l17Step.l0 k1 l1 (l0_0.length : Int) (wrap64 (x7_1 + 1)) l0_0 l0_1 y164 y168) = some (r1, r2) := by first | (rw [hy168]; with_reducible exact H) | (have H2_ := (Option.bind_some _ _).symm.trans H; rw [hy168]; with_reducible exact H2_) | (have H2_ := (Option.bind_some _ _).symm.trans H; with_reducible exact H2_) | with_reducible exact H | (rw [hy168]; exact H) | exact H
       have Ny168 := Aside0.mk hy168; clear hy168; have H' := Aside0.mk H; clear H; have hnb113 := NB116_117.out; have hnc113 := NB117_116.out; have hnb114 := NB116_130.out; have hnc114 := NB130_116.out
       have hcz115_0 : wr.cell? ⟨gb116, 0, none⟩ = some (.slice A0_0 l0_0.length c0_0) := (blk_cell BK116.out 0).trans rfl
       have hcz115_1 : wr.cell? ⟨gb116, 1, none⟩ = some (.slice A0_1 l0_1.length c0_1) := (blk_cell BK116.out 1).trans rfl
       have hfz115_0 := blk_frozen BK116.out 0; have hfz115_1 := blk_frozen BK116.out 1
       have p131 : 0 ≤ (x7_1 : Int) := of_decide_eq_true (by first | (with_reducible assumption) | assumption)
       have q131 : x7_1 < (l0_0.length : Int) := of_decide_eq_true (by first | (with_reducible assumption) | assumption)
       obtain ⟨ad131, e131, hx131_0⟩ := Kd.at_int HR0_0.out x7_1 p131 q131
       cases e131
       replace hx131_0 := (HB.out.cell (World.block_lt_of_cell? w _ hx131_0)).trans hx131_0
       replace p131 := eq_true p131; replace q131 := eq_true q131
       have p132 : 0 ≤ (x7_1 : Int) := of_decide_eq_true (by first | (with_reducible assumption) | assumption)
       have q132 : x7_1 < (l0_1.length : Int) := of_decide_eq_true (by first | (with_reducible assumption) | assumption)
       obtain ⟨ad132, e132, hx132_0⟩ := Kd.at_int HR0_1.out x7_1 p132 q132
       cases e132
       replace hx132_0 := (HB.out.cell (World.block_lt_of_cell? w _ hx132_0)).trans hx132_0
       replace p132 := eq_true p132; replace q132 := eq_true q132
       have p133 : 0 ≤ (x7_1 : Int) := of_decide_eq_true (by first | (with_reducible assumption) | assumption)
       have q133 : x7_1 < (l1.length : Int) := of_decide_eq_true (by first | (with_reducible assumption) | assumption)
       obtain ⟨ad133, e133, hx133_0⟩ := Kd.at_int HR1.out x7_1 p133 q133
       cases e133
       replace hx133_0 := (HB.out.cell (World.block_lt_of_cell? w _ hx133_0)).trans hx133_0
       replace p133 := eq_true p133; replace q133 := eq_true q133
       have p157 : 0 ≤ ((ji100) : Int) := of_decide_eq_true (by first | (with_reducible assumption) | assumption)
       have q157 : (ji100) < (l1.length : Int) := of_decide_eq_true (by first | (with_reducible assumption) | assumption)
       obtain ⟨ad157, e157, hx157_0⟩ := Kd.at_int HR1.out (ji100) p157 q157
       obtain rfl : ad133 = ad157 := (by injection e157)
       replace hx157_0 := (HB.out.cell (World.block_lt_of_cell? w _ hx157_0)).trans hx157_0
       replace p157 := eq_true p157; replace q157 := eq_true q157
       try go_wp2
       replace HO_131000 := Aside0.mk (Kd.R_drew HO_131000.out)
       replace HO_131001 := Aside0.mk (Kd.R_drew HO_131001.out)
       replace BK116 := Aside0.mk (blk_drew BK116.out)
       replace BK117 := Aside0.mk (blk_drew BK117.out)
       replace BK130 := Aside0.mk (blk_drew BK130.out)
       replace HB := Aside0.mk (below_drew1 HB.out)
       have p158 : 0 ≤ (x7_1 : Int) := of_decide_eq_true (by first | (with_reducible assumption) | assumption)
       have q158 : x7_1 < (l0_0.length : Int) := of_decide_eq_true (by first | (with_reducible assumption) | assumption)
       obtain ⟨ad158, e158, hx158_0⟩ := Kd.at_int HR0_0.out x7_1 p158 q158
       have hw158_0 := hx158_0
       obtain rfl : ad131 = ad158 := (by injection e158)
       replace hx158_0 := (HB.out.cell (World.block_lt_of_cell? w _ hx158_0)).trans hx158_0
       replace p158 := eq_true p158; replace q158 := eq_true q158
       have p159 : 0 ≤ ((ji100) : Int) := of_decide_eq_true (by first | (with_reducible assumption) | assumption)
       have q159 : (ji100) < (l1.length : Int) := of_decide_eq_true (by first | (with_reducible assumption) | assumption)
       obtain ⟨ad159, e159, hx159_0⟩ := Kd.at_int HR1.out (ji100) p159 q159
       have hw159_0 := hx159_0
       obtain rfl : ad133 = ad159 := (by injection e159)
       replace hx159_0 := (HB.out.cell (World.block_lt_of_cell? w _ hx159_0)).trans hx159_0
       replace p159 := eq_true p159; replace q159 := eq_true q159
       refine start_ (n := 12) (S := fun w' => w'.cell? ⟨gb116, 0, none⟩ = some (.slice (some ad131) l0_0.length c0_0) ∧ w'.cell? ⟨gb116, 1, none⟩ = some (.slice (some ad132) l0_1.length c0_1) ∧ w'.cell? (ad131.add (x7_1).toNat) = some (.int .i64 (rd l0_0 x7_1)) ∧ w'.cell? (ad133.add ((ji100)).toNat) = some (.int .i64 (rd l1 (ji100)))) (ds := []) #[false, false, false, false, false, false, false, false, false, false, false, false] (by kernel_rfl) rfl rfl ⟨(blk_cell BK116.out 0).trans rfl, (blk_cell BK116.out 1).trans rfl, ((HB.out.cell (World.block_lt_of_cell? w _ hw158_0)).trans hw158_0), ((HB.out.cell (World.block_lt_of_cell? w _ hw159_0)).trans hw159_0)⟩ (fun hHeld => ?_); refine with_tabW spec_l17Step.tab20 spec_l17Step.bits20 (fun HT_ HW_ => ?_)
       generalize wr.drew = w116 at HO_131000 HO_131001 BK116 BK117 BK130 HB hx158_0 hx159_0 hHeld ⊢
       refine pT_ 0 (some 129) #[true, false, false, false, false, false, false, false, false, false, false, false] HT_ ?_
       refine pT_ 2 (some 131) #[true, false, true, false, false, false, false, false, false, false, false, false] HT_ ?_
       refine pT_ 5 (some 134) #[true, false, true, false, false, true, false, false, false, false, false, false] HT_ ?_
       refine pT_ 6 (some 135) #[true, false, true, false, false, true, true, false, false, false, false, false] HT_ ?_
       refine pT_ 7 (some 136) #[true, false, true, false, false, true, true, true, false, false, false, false] HT_ ?_
       refine tT_ 1 (some 130) #[true, true, true, false, false, true, true, true, false, false, false, false] HT_ HW_ hHeld ?_ (hy := by rintro w' ⟨s0, s1, s2, s3⟩; go_simp; with_reducible rfl)
       refine pT_ 3 (some 132) #[true, true, true, true, false, true, true, true, false, false, false, false] HT_ ?_
       refine tT_ 4 (some 133) #[true, true, true, true, true, true, true, true, false, false, false, false] HT_ HW_ hHeld ?_ (hy := by rintro w' ⟨s0, s1, s2, s3⟩; go_simp; with_reducible rfl)
       refine tT_ 8 (some 137) #[true, true, true, true, true, true, true, true, true, false, false, false] HT_ HW_ hHeld ?_ (hy := by rintro w' ⟨s0, s1, s2, s3⟩; go_simp; with_reducible rfl)
       refine pT_ 9 (some 138) #[true, true, true, true, true, true, true, true, true, true, false, false] HT_ ?_
       refine pT_ 10 (some 139) #[true, true, true, true, true, true, true, true, true, true, true, false] HT_ ?_
       refine pT_ 11 (some 14) #[true, true, true, true, true, true, true, true, true, true, true, true] HT_ ?_
       refine done_ (done_of HT_.out (by kernel_rfl)) ?_
       try go_wp2_with (first | ((with_reducible refine gate_callee (f := 39) rfl ?_); refine goesL_ (some 143) rfl rfl Try.func39 (by kernel_rfl) rfl #[.int .i64 (rd l0_1 x7_1), .int .i64 (wrap64 (Int.tdiv (wrap64 ((rd l0_0 x7_1) * (rd l1 (ji100)))) 256)), .int .i64 (rd l0_0 x7_1)] rfl (by (try simp only [List.map_toArray, List.map_cons, List.map_nil]); first | done | (simp only [hji100]; rfl) | rfl | (simp only [List.length_drop, List.length_take]; rfl)) ?_; (with_reducible refine (spec_l17Part.calls (rd l0_1 x7_1) (wrap64 (Int.tdiv (wrap64 ((rd l0_0 x7_1) * (rd l1 (ji100)))) 256)) (rd l0_0 x7_1) t160 _ A104.out).mono ?_); rintro e w' ⟨rfl, ⟨nd, rfl⟩⟩; refine ⟨_, rfl, ?_⟩; (try (rw [drewN_self w116]; generalize hq_ : World.drewN w116 _ = w116; have n0_ : Aside0 (Kd.R (Kd.int .i64) 2 w116 w.heap.size (fun k_ => some k_ ≠ (u131001 : Value).ownBlock) u131000 x131000_1) := ⟨by rw [← hq_]; exact (rT_ HO_131000)⟩; have n1_ : Aside0 (Kd.R (Kd.int .i64) 2 w116 w.heap.size (fun k_ => some k_ ≠ (u131000 : Value).ownBlock) u131001 x131001_1) := ⟨by rw [← hq_]; exact (rT_ HO_131001)⟩; have n2_ : Aside0 (w116.heap[gb116]? = some (.cells #[.slice (some ad131) l0_0.length c0_0, .slice (some ad132) l0_1.length c0_1] 26 (0, 0))) := ⟨by rw [← hq_]; exact (bT_ BK116)⟩; have n3_ : Aside0 (w116.heap[gb117]? = some (.cells #[.slice none 0 0, .slice none 0 0] 26 (0, 0))) := ⟨by rw [← hq_]; exact (bT_ BK117)⟩; have n4_ : Aside0 (w116.heap[gb130]? = some (.cells #[u131000, u131001] 26 (0, 0))) := ⟨by rw [← hq_]; exact (bT_ BK130)⟩; have n5_ : Aside0 (Below w.heap.size w w116) := ⟨by rw [← hq_]; exact (by repeat (first | (with_reducible first | exact HB.out | apply below_alloc | apply pw_below_drewN | apply below_drew1 | refine below_set ?_ GE116.out | refine below_set ?_ GE117.out | refine below_set ?_ GE130.out) | exact HB.out))⟩; clear HO_131000 HO_131001 BK116 BK117 BK130 HB hq_; have HO_131000 := n0_; have HO_131001 := n1_; have BK116 := n2_; have BK117 := n3_; have BK130 := n4_; have HB := n5_; clear n0_ n1_ n2_ n3_ n4_ n5_))))
       replace HO_131000 := Aside0.mk (Kd.R_drew HO_131000.out)
       replace HO_131001 := Aside0.mk (Kd.R_drew HO_131001.out)
       replace BK116 := Aside0.mk (blk_drew BK116.out)
       replace BK117 := Aside0.mk (blk_drew BK117.out)
       replace BK130 := Aside0.mk (blk_drew BK130.out)
       replace HB := Aside0.mk (below_drew1 HB.out)
       obtain ⟨Ao118, co118, eo118⟩ := Kd.R_slice HO_131000.out
       (first | subst eo118 | (injection eo118 with f1_ f2_ f3_; have f4_ := f1_.symm; have f5_ := f3_.symm; clear f1_ f2_ f3_; subst f4_; subst f5_))
       have p161 : 0 ≤ (x7_1 : Int) := of_decide_eq_true (by first | (with_reducible assumption) | assumption)
       have q161 : x7_1 < (x131000_1.length : Int) := of_decide_eq_true (by first | (with_reducible assumption) | assumption)
       obtain ⟨ad161, e161, hx161_0⟩ := Kd.at_int (Kd.R_reads' HO_131000.out).2.2 x7_1 p161 q161
       cases e161
       replace p161 := eq_true p161; replace q161 := eq_true q161
       have p106 : 0 ≤ (x7_1 : Int) := of_decide_eq_true (by first | (with_reducible assumption) | assumption)
       have q106 : (x7_1 : Int) < ((x131000_1.length : Int) : Int) := of_decide_eq_true (by first | (with_reducible assumption) | assumption)
       obtain ⟨go106, co106, eo106, gb106, gl106, cl106, HG106⟩ := Kd.R_form HO_131000.out (by omega)
       (first | cases eo106 | (injection eo106 with ea_ en_ ec_; (first | subst ea_ | (injection ea_ with ea_; subst ea_)); subst ec_; clear en_))
       have GB106 := Aside0.mk gb106; have GG106 := Aside0.mk HG106; clear gb106 gl106 HG106
       (first | simp only [add_plain] at hx161_0 | skip)
       obtain ⟨hx106_0, hf106_0⟩ := Kd.R_celln 0 HO_131000.out (x7_1 : Int) p106 q106
       replace p106 := eq_true p106; replace q106 := eq_true q106
       have HP119 := Kd.R_putn HO_131000.out (x7_1 : Int) (wrap64 ((rd x131000_1 x7_1) - (wrap64 (Int.tdiv (wrap64 ((rd l0_0 x7_1) * (rd l1 (ji100)))) 256))))
       rw [← Ny162.out] at HP119
       have HQ119 := Aside0.mk HP119; clear HP119
       refine start_ (n := 12) (S := fun w' => w'.cell? ⟨gb130, 0, none⟩ = some (.slice (some ⟨go106, 0, none⟩) x131000_1.length co118) ∧ w'.cell? ⟨gb130, 1, none⟩ = some (u131001) ∧ w'.cell? ⟨go106, (x7_1).toNat, none⟩ = some (.int .i64 (rd x131000_1 x7_1))) (ds := [11]) #[false, false, false, false, false, false, false, false, false, false, false, false] (by kernel_rfl) rfl rfl ⟨(blk_cell BK130.out 0).trans rfl, (blk_cell BK130.out 1).trans rfl, hx161_0⟩ (fun hHeld => ?_); refine with_tabW spec_l17Step.tab22 spec_l17Step.bits22 (fun HT_ HW_ => ?_)
       generalize w116.drew = w117 at HO_131000 HO_131001 BK116 BK117 BK130 HB GG106 HQ119 hf106_0 hx106_0 hx161_0 hHeld ⊢
       refine pT_ 0 (some 144) #[true, false, false, false, false, false, false, false, false, false, false, false] HT_ ?_
       refine pT_ 2 (some 146) #[true, false, true, false, false, false, false, false, false, false, false, false] HT_ ?_
       refine pT_ 3 (some 147) #[true, false, true, true, false, false, false, false, false, false, false, false] HT_ ?_
       refine pT_ 5 (some 149) #[true, false, true, true, false, true, false, false, false, false, false, false] HT_ ?_
       refine pT_ 8 (some 152) #[true, false, true, true, false, true, false, false, true, false, false, false] HT_ ?_
       refine tT_ 1 (some 145) #[true, true, true, true, false, true, false, false, true, false, false, false] HT_ HW_ hHeld ?_ (hy := by rintro w' ⟨s0, s1, s2⟩; go_simp; with_reducible rfl)
       refine tT_ 4 (some 148) #[true, true, true, true, true, true, false, false, true, false, false, false] HT_ HW_ hHeld ?_ (hy := by rintro w' ⟨s0, s1, s2⟩; go_simp; with_reducible rfl)
       refine pT_ 6 (some 150) #[true, true, true, true, true, true, true, false, true, false, false, false] HT_ ?_
       refine tT_ 7 (some 151) #[true, true, true, true, true, true, true, true, true, false, false, false] HT_ HW_ hHeld ?_ (hy := by rintro w' ⟨s0, s1, s2⟩; go_simp; with_reducible rfl)
       refine pT_ 9 (some 153) #[true, true, true, true, true, true, true, true, true, true, false, false] HT_ ?_
       refine pT_ 10 (some 154) #[true, true, true, true, true, true, true, true, true, true, true, false] HT_ ?_
       refine last_ (i := 11) (N := none) #[true, true, true, true, true, true, true, true, true, true, true, true] rfl rfl (one_of HT_.out (by kernel_rfl)) (by decide) (fun K hK => ?_)
       refine skip_ (w1 := ?_) (by rfl) rfl ?_ ?_
       rotate_left
       ·go_simp
        rfl
       refine hK.out _ _ ?_
       clear hK K
       refine done_ (done_of HT_.out (by kernel_rfl)) ?_
       try go_wp2
       have n0_ : Aside0 (Kd.R (Kd.int .i64) 2 (w117.setCell ⟨go106, (x7_1 : Int).toNat, none⟩ (.int .i64 (wrap64 ((rd x131000_1 x7_1) - (wrap64 (Int.tdiv (wrap64 ((rd l0_0 x7_1) * (rd l1 (ji100)))) 256)))))) w.heap.size (fun k_ => some k_ ≠ (u131001 : Value).ownBlock) (.slice (some ⟨go106, 0, none⟩) x131000_1.length co118) y162) := ⟨by (with_reducible repeat (first | apply Kd.R_alloc | apply Kd.R_drewN | apply Kd.R_drew)); exact HQ119.out⟩
       have n1_ : Aside0 (Kd.R (Kd.int .i64) 2 (w117.setCell ⟨go106, (x7_1 : Int).toNat, none⟩ (.int .i64 (wrap64 ((rd x131000_1 x7_1) - (wrap64 (Int.tdiv (wrap64 ((rd l0_0 x7_1) * (rd l1 (ji100)))) 256)))))) w.heap.size (fun k_ => some k_ ≠ (.slice (some ⟨go106, 0, none⟩) x131000_1.length co118 : Value).ownBlock) u131001 x131001_1) := ⟨by (with_reducible repeat (first | apply Kd.R_alloc | apply Kd.R_drewN | apply Kd.R_drew)); exact Kd.R_mono (Kd.R_far (p := ⟨go106, (x7_1 : Int).toNat, none⟩) (Kd.R_mono HO_131001.out (fun k_ hk => (⟨hk, fun e_ => hk (by rw [e_]; rfl)⟩ : _ ∧ k_ ≠ go106))) (fun _ hk => hk.2) (.int .i64 (wrap64 ((rd x131000_1 x7_1) - (wrap64 (Int.tdiv (wrap64 ((rd l0_0 x7_1) * (rd l1 (ji100)))) 256)))))) (fun _ hk => hk.1)⟩
       have n2_ : Aside0 ((w117.setCell ⟨go106, (x7_1 : Int).toNat, none⟩ (.int .i64 (wrap64 ((rd x131000_1 x7_1) - (wrap64 (Int.tdiv (wrap64 ((rd l0_0 x7_1) * (rd l1 (ji100)))) 256)))))).heap[gb116]? = some (.cells #[.slice (some ad131) l0_0.length c0_0, .slice (some ad132) l0_1.length c0_1] 26 (0, 0))) := ⟨by (with_reducible repeat (first | refine blk_drewN ?_ _ | refine blk_drew ?_ | refine blk_alloc ?_ _)); refine blk_far ?_ (by have h_ := Kd.R_ne HO_131000.out BK116.out (by decide); intro e_; exact h_ (by rw [e_]; rfl)) _; exact bT_ BK116⟩
       have n3_ : Aside0 ((w117.setCell ⟨go106, (x7_1 : Int).toNat, none⟩ (.int .i64 (wrap64 ((rd x131000_1 x7_1) - (wrap64 (Int.tdiv (wrap64 ((rd l0_0 x7_1) * (rd l1 (ji100)))) 256)))))).heap[gb117]? = some (.cells #[.slice none 0 0, .slice none 0 0] 26 (0, 0))) := ⟨by (with_reducible repeat (first | refine blk_drewN ?_ _ | refine blk_drew ?_ | refine blk_alloc ?_ _)); refine blk_far ?_ (by have h_ := Kd.R_ne HO_131000.out BK117.out (by decide); intro e_; exact h_ (by rw [e_]; rfl)) _; exact bT_ BK117⟩
       have n4_ : Aside0 ((w117.setCell ⟨go106, (x7_1 : Int).toNat, none⟩ (.int .i64 (wrap64 ((rd x131000_1 x7_1) - (wrap64 (Int.tdiv (wrap64 ((rd l0_0 x7_1) * (rd l1 (ji100)))) 256)))))).heap[gb130]? = some (.cells #[.slice (some ⟨go106, 0, none⟩) x131000_1.length co118, u131001] 26 (0, 0))) := ⟨by (with_reducible repeat (first | refine blk_drewN ?_ _ | refine blk_drew ?_ | refine blk_alloc ?_ _)); refine blk_far ?_ (by have h_ := Kd.R_ne HO_131000.out BK130.out (by decide); intro e_; exact h_ (by rw [e_]; rfl)) _; exact bT_ BK130⟩
       have n5_ : Aside0 (Below w.heap.size w (w117.setCell ⟨go106, (x7_1 : Int).toNat, none⟩ (.int .i64 (wrap64 ((rd x131000_1 x7_1) - (wrap64 (Int.tdiv (wrap64 ((rd l0_0 x7_1) * (rd l1 (ji100)))) 256))))))) := ⟨by repeat (first | (with_reducible first | exact HB.out | apply below_alloc | apply pw_below_drewN | apply below_drew1 | refine below_set ?_ GB106.out | refine below_set ?_ GE116.out | refine below_set ?_ GE117.out | refine below_set ?_ GE130.out) | exact HB.out)⟩
       (try clear HO_131000); (try clear HO_131001); (try clear BK116); (try clear BK117); (try clear BK130); (try clear HB)
       generalize (w117.setCell ⟨go106, (x7_1 : Int).toNat, none⟩ (.int .i64 (wrap64 ((rd x131000_1 x7_1) - (wrap64 (Int.tdiv (wrap64 ((rd l0_0 x7_1) * (rd l1 (ji100)))) 256)))))) = w120 at n0_ n1_ n2_ n3_ n4_ n5_ ⊢
       have HO_131000 := n0_; have HO_131001 := n1_; have BK116 := n2_; have BK117 := n3_; have BK130 := n4_; have HB := n5_; clear n0_ n1_ n2_ n3_ n4_ n5_
       replace HO_131000 := Aside0.mk (Kd.R_drew HO_131000.out)
       replace HO_131001 := Aside0.mk (Kd.R_drew HO_131001.out)
       replace BK116 := Aside0.mk (blk_drew BK116.out)
       replace BK117 := Aside0.mk (blk_drew BK117.out)
       replace BK130 := Aside0.mk (blk_drew BK130.out)
       replace HB := Aside0.mk (below_drew1 HB.out)
       have p163 : 0 ≤ ((ji100) : Int) := of_decide_eq_true (by first | (with_reducible assumption) | assumption)
       have q163 : (ji100) < (y162.length : Int) := (by have h_ : ((ji100) : Int) < ((x131000_1.length : Int) : Int) := of_decide_eq_true (by first | (with_reducible assumption) | assumption); first | (have e_ := (Kd.R_reads' HO_131000.out).1; omega) | simpa only [Ny162.out, List.length_set] using h_)
       have ql163 : (((ji100) : Int) < ((x131000_1.length : Int) : Int)) = True := eq_true (of_decide_eq_true (by first | (with_reducible assumption) | assumption))
       obtain ⟨ad163, e163, hx163_0⟩ := Kd.at_int (Kd.R_reads' HO_131000.out).2.2 (ji100) p163 q163
       obtain rfl : (⟨go106, 0, none⟩ : Addr) = ad163 := (by injection e163)
       (first | simp only [add_plain] at hx163_0 | simp only [add_at] at hx163_0 | simp only [Addr.add, Nat.zero_add] at hx163_0 | skip)
       replace p163 := eq_true p163; replace q163 := eq_true q163
       have p108 : 0 ≤ ((ji100) : Int) := of_decide_eq_true (by first | (with_reducible assumption) | assumption)
       have q108 : ((ji100) : Int) < ((x131000_1.length : Int) : Int) := of_decide_eq_true (by first | (with_reducible assumption) | assumption)
       obtain ⟨hx108_0, hf108_0⟩ := Kd.R_celln 0 HO_131000.out ((ji100) : Int) p108 q108
       replace p108 := eq_true p108; replace q108 := eq_true q108
       have HP122 := Kd.R_putn HO_131000.out ((ji100) : Int) (wrap64 ((rd y162 (ji100)) + (wrap64 (Int.tdiv (wrap64 ((rd l0_0 x7_1) * (rd l1 (ji100)))) 256))))
       rw [← Ny164.out] at HP122
       have HQ122 := Aside0.mk HP122; clear HP122
       refine start_ (n := 12) (S := fun w' => w'.cell? ⟨gb130, 0, none⟩ = some (.slice (some ⟨go106, 0, none⟩) x131000_1.length co118) ∧ w'.cell? ⟨gb130, 1, none⟩ = some (u131001) ∧ w'.cell? ⟨go106, ((ji100)).toNat, none⟩ = some (.int .i64 (rd y162 (ji100)))) (ds := [11]) #[false, false, false, false, false, false, false, false, false, false, false, false] (by kernel_rfl) rfl rfl ⟨(blk_cell BK130.out 0).trans rfl, (blk_cell BK130.out 1).trans rfl, hx163_0⟩ (fun hHeld => ?_); refine with_tabW spec_l17Step.tab23 spec_l17Step.bits23 (fun HT_ HW_ => ?_)
       generalize w120.drew = w121 at HO_131000 HO_131001 BK116 BK117 BK130 HB HQ119 HQ122 hf108_0 hx108_0 hx163_0 hHeld ⊢
       refine pT_ 0 (some 155) #[true, false, false, false, false, false, false, false, false, false, false, false] HT_ ?_
       refine pT_ 2 (some 157) #[true, false, true, false, false, false, false, false, false, false, false, false] HT_ ?_
       refine pT_ 3 (some 158) #[true, false, true, true, false, false, false, false, false, false, false, false] HT_ ?_
       refine pT_ 5 (some 160) #[true, false, true, true, false, true, false, false, false, false, false, false] HT_ ?_
       refine pT_ 8 (some 163) #[true, false, true, true, false, true, false, false, true, false, false, false] HT_ ?_
       refine tT_ 1 (some 156) #[true, true, true, true, false, true, false, false, true, false, false, false] HT_ HW_ hHeld ?_ (hy := by rintro w' ⟨s0, s1, s2⟩; go_simp; with_reducible rfl)
       refine tT_ 4 (some 159) #[true, true, true, true, true, true, false, false, true, false, false, false] HT_ HW_ hHeld ?_ (hy := by rintro w' ⟨s0, s1, s2⟩; go_simp; with_reducible rfl)
       refine pT_ 6 (some 161) #[true, true, true, true, true, true, true, false, true, false, false, false] HT_ ?_
       refine tT_ 7 (some 162) #[true, true, true, true, true, true, true, true, true, false, false, false] HT_ HW_ hHeld ?_ (hy := by rintro w' ⟨s0, s1, s2⟩; go_simp; with_reducible rfl)
       refine pT_ 9 (some 164) #[true, true, true, true, true, true, true, true, true, true, false, false] HT_ ?_
       refine pT_ 10 (some 165) #[true, true, true, true, true, true, true, true, true, true, true, false] HT_ ?_
       refine last_ (i := 11) (N := none) #[true, true, true, true, true, true, true, true, true, true, true, true] rfl rfl (one_of HT_.out (by kernel_rfl)) (by decide) (fun K hK => ?_)
       refine skip_ (w1 := ?_) (by rfl) rfl ?_ ?_
       rotate_left
       ·go_simp
        rfl
       refine hK.out _ _ ?_
       clear hK K
       refine done_ (done_of HT_.out (by kernel_rfl)) ?_
       try go_wp2
       have n0_ : Aside0 (Kd.R (Kd.int .i64) 2 (w121.setCell ⟨go106, ((ji100) : Int).toNat, none⟩ (.int .i64 (wrap64 ((rd y162 (ji100)) + (wrap64 (Int.tdiv (wrap64 ((rd l0_0 x7_1) * (rd l1 (ji100)))) 256)))))) w.heap.size (fun k_ => some k_ ≠ (u131001 : Value).ownBlock) (.slice (some ⟨go106, 0, none⟩) x131000_1.length co118) y164) := ⟨by (with_reducible repeat (first | apply Kd.R_alloc | apply Kd.R_drewN | apply Kd.R_drew)); exact HQ122.out⟩
       have n1_ : Aside0 (Kd.R (Kd.int .i64) 2 (w121.setCell ⟨go106, ((ji100) : Int).toNat, none⟩ (.int .i64 (wrap64 ((rd y162 (ji100)) + (wrap64 (Int.tdiv (wrap64 ((rd l0_0 x7_1) * (rd l1 (ji100)))) 256)))))) w.heap.size (fun k_ => some k_ ≠ (.slice (some ⟨go106, 0, none⟩) x131000_1.length co118 : Value).ownBlock) u131001 x131001_1) := ⟨by (with_reducible repeat (first | apply Kd.R_alloc | apply Kd.R_drewN | apply Kd.R_drew)); exact Kd.R_mono (Kd.R_far (p := ⟨go106, ((ji100) : Int).toNat, none⟩) (Kd.R_mono HO_131001.out (fun k_ hk => (⟨hk, fun e_ => hk (by rw [e_]; rfl)⟩ : _ ∧ k_ ≠ go106))) (fun _ hk => hk.2) (.int .i64 (wrap64 ((rd y162 (ji100)) + (wrap64 (Int.tdiv (wrap64 ((rd l0_0 x7_1) * (rd l1 (ji100)))) 256)))))) (fun _ hk => hk.1)⟩
       have n2_ : Aside0 ((w121.setCell ⟨go106, ((ji100) : Int).toNat, none⟩ (.int .i64 (wrap64 ((rd y162 (ji100)) + (wrap64 (Int.tdiv (wrap64 ((rd l0_0 x7_1) * (rd l1 (ji100)))) 256)))))).heap[gb116]? = some (.cells #[.slice (some ad131) l0_0.length c0_0, .slice (some ad132) l0_1.length c0_1] 26 (0, 0))) := ⟨by (with_reducible repeat (first | refine blk_drewN ?_ _ | refine blk_drew ?_ | refine blk_alloc ?_ _)); refine blk_far ?_ (by have h_ := Kd.R_ne HO_131000.out BK116.out (by decide); intro e_; exact h_ (by rw [e_]; rfl)) _; exact bT_ BK116⟩
       have n3_ : Aside0 ((w121.setCell ⟨go106, ((ji100) : Int).toNat, none⟩ (.int .i64 (wrap64 ((rd y162 (ji100)) + (wrap64 (Int.tdiv (wrap64 ((rd l0_0 x7_1) * (rd l1 (ji100)))) 256)))))).heap[gb117]? = some (.cells #[.slice none 0 0, .slice none 0 0] 26 (0, 0))) := ⟨by (with_reducible repeat (first | refine blk_drewN ?_ _ | refine blk_drew ?_ | refine blk_alloc ?_ _)); refine blk_far ?_ (by have h_ := Kd.R_ne HO_131000.out BK117.out (by decide); intro e_; exact h_ (by rw [e_]; rfl)) _; exact bT_ BK117⟩
       have n4_ : Aside0 ((w121.setCell ⟨go106, ((ji100) : Int).toNat, none⟩ (.int .i64 (wrap64 ((rd y162 (ji100)) + (wrap64 (Int.tdiv (wrap64 ((rd l0_0 x7_1) * (rd l1 (ji100)))) 256)))))).heap[gb130]? = some (.cells #[.slice (some ⟨go106, 0, none⟩) x131000_1.length co118, u131001] 26 (0, 0))) := ⟨by (with_reducible repeat (first | refine blk_drewN ?_ _ | refine blk_drew ?_ | refine blk_alloc ?_ _)); refine blk_far ?_ (by have h_ := Kd.R_ne HO_131000.out BK130.out (by decide); intro e_; exact h_ (by rw [e_]; rfl)) _; exact bT_ BK130⟩
       have n5_ : Aside0 (Below w.heap.size w (w121.setCell ⟨go106, ((ji100) : Int).toNat, none⟩ (.int .i64 (wrap64 ((rd y162 (ji100)) + (wrap64 (Int.tdiv (wrap64 ((rd l0_0 x7_1) * (rd l1 (ji100)))) 256))))))) := ⟨by repeat (first | (with_reducible first | exact HB.out | apply below_alloc | apply pw_below_drewN | apply below_drew1 | refine below_set ?_ GB106.out | refine below_set ?_ GE116.out | refine below_set ?_ GE117.out | refine below_set ?_ GE130.out) | exact HB.out)⟩
       (try clear HO_131000); (try clear HO_131001); (try clear BK116); (try clear BK117); (try clear BK130); (try clear HB)
       generalize (w121.setCell ⟨go106, ((ji100) : Int).toNat, none⟩ (.int .i64 (wrap64 ((rd y162 (ji100)) + (wrap64 (Int.tdiv (wrap64 ((rd l0_0 x7_1) * (rd l1 (ji100)))) 256)))))) = w123 at n0_ n1_ n2_ n3_ n4_ n5_ ⊢
       have HO_131000 := n0_; have HO_131001 := n1_; have BK116 := n2_; have BK117 := n3_; have BK130 := n4_; have HB := n5_; clear n0_ n1_ n2_ n3_ n4_ n5_
       replace HO_131000 := Aside0.mk (Kd.R_drew HO_131000.out)
       replace HO_131001 := Aside0.mk (Kd.R_drew HO_131001.out)
       replace BK116 := Aside0.mk (blk_drew BK116.out)
       replace BK117 := Aside0.mk (blk_drew BK117.out)
       replace BK130 := Aside0.mk (blk_drew BK130.out)
       replace HB := Aside0.mk (below_drew1 HB.out)
       obtain ⟨Ao125, co125, eo125⟩ := Kd.R_slice HO_131001.out
       (first | subst eo125 | (injection eo125 with f1_ f2_ f3_; have f4_ := f1_.symm; have f5_ := f3_.symm; clear f1_ f2_ f3_; subst f4_; subst f5_))
       have p165 : 0 ≤ (x7_1 : Int) := of_decide_eq_true (by first | (with_reducible assumption) | assumption)
       have q165 : x7_1 < (x131001_1.length : Int) := of_decide_eq_true (by first | (with_reducible assumption) | assumption)
       obtain ⟨ad165, e165, hx165_0⟩ := Kd.at_int (Kd.R_reads' HO_131001.out).2.2 x7_1 p165 q165
       cases e165
       replace p165 := eq_true p165; replace q165 := eq_true q165
       have p110 : 0 ≤ (x7_1 : Int) := of_decide_eq_true (by first | (with_reducible assumption) | assumption)
       have q110 : (x7_1 : Int) < ((x131001_1.length : Int) : Int) := of_decide_eq_true (by first | (with_reducible assumption) | assumption)
       obtain ⟨go110, co110, eo110, gb110, gl110, cl110, HG110⟩ := Kd.R_form HO_131001.out (by omega)
       (first | cases eo110 | (injection eo110 with ea_ en_ ec_; (first | subst ea_ | (injection ea_ with ea_; subst ea_)); subst ec_; clear en_))
       have GB110 := Aside0.mk gb110; have GG110 := Aside0.mk HG110; clear gb110 gl110 HG110
       (first | simp only [add_plain] at hx165_0 | skip)
       obtain ⟨hx110_0, hf110_0⟩ := Kd.R_celln 0 HO_131001.out (x7_1 : Int) p110 q110
       replace p110 := eq_true p110; replace q110 := eq_true q110
       have HP126 := Kd.R_putn HO_131001.out (x7_1 : Int) (wrap64 ((rd x131001_1 x7_1) - t160))
       rw [← Ny166.out] at HP126
       have HQ126 := Aside0.mk HP126; clear HP126
       refine start_ (n := 12) (S := fun w' => w'.cell? ⟨gb130, 0, none⟩ = some (.slice (some ⟨go106, 0, none⟩) x131000_1.length co118) ∧ w'.cell? ⟨gb130, 1, none⟩ = some (.slice (some ⟨go110, 0, none⟩) x131001_1.length co125) ∧ w'.cell? ⟨go110, (x7_1).toNat, none⟩ = some (.int .i64 (rd x131001_1 x7_1))) (ds := [11]) #[false, false, false, false, false, false, false, false, false, false, false, false] (by kernel_rfl) rfl rfl ⟨(blk_cell BK130.out 0).trans rfl, (blk_cell BK130.out 1).trans rfl, hx165_0⟩ (fun hHeld => ?_); refine with_tabW spec_l17Step.tab24 spec_l17Step.bits24 (fun HT_ HW_ => ?_)
       generalize w123.drew = w124 at HO_131000 HO_131001 BK116 BK117 BK130 HB GG110 HQ122 HQ126 hf110_0 hx110_0 hx165_0 hHeld ⊢
       refine pT_ 0 (some 166) #[true, false, false, false, false, false, false, false, false, false, false, false] HT_ ?_
       refine pT_ 2 (some 168) #[true, false, true, false, false, false, false, false, false, false, false, false] HT_ ?_
       refine pT_ 3 (some 169) #[true, false, true, true, false, false, false, false, false, false, false, false] HT_ ?_
       refine pT_ 5 (some 171) #[true, false, true, true, false, true, false, false, false, false, false, false] HT_ ?_
       refine pT_ 8 (some 174) #[true, false, true, true, false, true, false, false, true, false, false, false] HT_ ?_
       refine tT_ 1 (some 167) #[true, true, true, true, false, true, false, false, true, false, false, false] HT_ HW_ hHeld ?_ (hy := by rintro w' ⟨s0, s1, s2⟩; go_simp; with_reducible rfl)
       refine tT_ 4 (some 170) #[true, true, true, true, true, true, false, false, true, false, false, false] HT_ HW_ hHeld ?_ (hy := by rintro w' ⟨s0, s1, s2⟩; go_simp; with_reducible rfl)
       refine pT_ 6 (some 172) #[true, true, true, true, true, true, true, false, true, false, false, false] HT_ ?_
       refine tT_ 7 (some 173) #[true, true, true, true, true, true, true, true, true, false, false, false] HT_ HW_ hHeld ?_ (hy := by rintro w' ⟨s0, s1, s2⟩; go_simp; with_reducible rfl)
       refine pT_ 9 (some 175) #[true, true, true, true, true, true, true, true, true, true, false, false] HT_ ?_
       refine pT_ 10 (some 176) #[true, true, true, true, true, true, true, true, true, true, true, false] HT_ ?_
       refine last_ (i := 11) (N := none) #[true, true, true, true, true, true, true, true, true, true, true, true] rfl rfl (one_of HT_.out (by kernel_rfl)) (by decide) (fun K hK => ?_)
       refine skip_ (w1 := ?_) (by rfl) rfl ?_ ?_
       rotate_left
       ·go_simp
        rfl
       refine hK.out _ _ ?_
       clear hK K
       refine done_ (done_of HT_.out (by kernel_rfl)) ?_
       try go_wp2
       have n0_ : Aside0 (Kd.R (Kd.int .i64) 2 (w124.setCell ⟨go110, (x7_1 : Int).toNat, none⟩ (.int .i64 (wrap64 ((rd x131001_1 x7_1) - t160)))) w.heap.size (fun k_ => some k_ ≠ (.slice (some ⟨go110, 0, none⟩) x131001_1.length co125 : Value).ownBlock) (.slice (some ⟨go106, 0, none⟩) x131000_1.length co118) y164) := ⟨by (with_reducible repeat (first | apply Kd.R_alloc | apply Kd.R_drewN | apply Kd.R_drew)); exact Kd.R_mono (Kd.R_far (p := ⟨go110, (x7_1 : Int).toNat, none⟩) (Kd.R_mono HO_131000.out (fun k_ hk => (⟨hk, fun e_ => hk (by rw [e_]; rfl)⟩ : _ ∧ k_ ≠ go110))) (fun _ hk => hk.2) (.int .i64 (wrap64 ((rd x131001_1 x7_1) - t160)))) (fun _ hk => hk.1)⟩
       have n1_ : Aside0 (Kd.R (Kd.int .i64) 2 (w124.setCell ⟨go110, (x7_1 : Int).toNat, none⟩ (.int .i64 (wrap64 ((rd x131001_1 x7_1) - t160)))) w.heap.size (fun k_ => some k_ ≠ (.slice (some ⟨go106, 0, none⟩) x131000_1.length co118 : Value).ownBlock) (.slice (some ⟨go110, 0, none⟩) x131001_1.length co125) y166) := ⟨by (with_reducible repeat (first | apply Kd.R_alloc | apply Kd.R_drewN | apply Kd.R_drew)); exact HQ126.out⟩
       have n2_ : Aside0 ((w124.setCell ⟨go110, (x7_1 : Int).toNat, none⟩ (.int .i64 (wrap64 ((rd x131001_1 x7_1) - t160)))).heap[gb116]? = some (.cells #[.slice (some ad131) l0_0.length c0_0, .slice (some ad132) l0_1.length c0_1] 26 (0, 0))) := ⟨by (with_reducible repeat (first | refine blk_drewN ?_ _ | refine blk_drew ?_ | refine blk_alloc ?_ _)); refine blk_far ?_ (by have h_ := Kd.R_ne HO_131001.out BK116.out (by decide); intro e_; exact h_ (by rw [e_]; rfl)) _; exact bT_ BK116⟩
       have n3_ : Aside0 ((w124.setCell ⟨go110, (x7_1 : Int).toNat, none⟩ (.int .i64 (wrap64 ((rd x131001_1 x7_1) - t160)))).heap[gb117]? = some (.cells #[.slice none 0 0, .slice none 0 0] 26 (0, 0))) := ⟨by (with_reducible repeat (first | refine blk_drewN ?_ _ | refine blk_drew ?_ | refine blk_alloc ?_ _)); refine blk_far ?_ (by have h_ := Kd.R_ne HO_131001.out BK117.out (by decide); intro e_; exact h_ (by rw [e_]; rfl)) _; exact bT_ BK117⟩
       have n4_ : Aside0 ((w124.setCell ⟨go110, (x7_1 : Int).toNat, none⟩ (.int .i64 (wrap64 ((rd x131001_1 x7_1) - t160)))).heap[gb130]? = some (.cells #[.slice (some ⟨go106, 0, none⟩) x131000_1.length co118, .slice (some ⟨go110, 0, none⟩) x131001_1.length co125] 26 (0, 0))) := ⟨by (with_reducible repeat (first | refine blk_drewN ?_ _ | refine blk_drew ?_ | refine blk_alloc ?_ _)); refine blk_far ?_ (by have h_ := Kd.R_ne HO_131001.out BK130.out (by decide); intro e_; exact h_ (by rw [e_]; rfl)) _; exact bT_ BK130⟩
       have n5_ : Aside0 (Below w.heap.size w (w124.setCell ⟨go110, (x7_1 : Int).toNat, none⟩ (.int .i64 (wrap64 ((rd x131001_1 x7_1) - t160))))) := ⟨by repeat (first | (with_reducible first | exact HB.out | apply below_alloc | apply pw_below_drewN | apply below_drew1 | refine below_set ?_ GB110.out | refine below_set ?_ GE116.out | refine below_set ?_ GE117.out | refine below_set ?_ GE130.out) | exact HB.out)⟩
       (try clear HO_131000); (try clear HO_131001); (try clear BK116); (try clear BK117); (try clear BK130); (try clear HB)
       generalize (w124.setCell ⟨go110, (x7_1 : Int).toNat, none⟩ (.int .i64 (wrap64 ((rd x131001_1 x7_1) - t160)))) = w127 at n0_ n1_ n2_ n3_ n4_ n5_ ⊢
       have HO_131000 := n0_; have HO_131001 := n1_; have BK116 := n2_; have BK117 := n3_; have BK130 := n4_; have HB := n5_; clear n0_ n1_ n2_ n3_ n4_ n5_
       replace HO_131000 := Aside0.mk (Kd.R_drew HO_131000.out)
       replace HO_131001 := Aside0.mk (Kd.R_drew HO_131001.out)
       replace BK116 := Aside0.mk (blk_drew BK116.out)
       replace BK117 := Aside0.mk (blk_drew BK117.out)
       replace BK130 := Aside0.mk (blk_drew BK130.out)
       replace HB := Aside0.mk (below_drew1 HB.out)
       have p167 : 0 ≤ ((ji100) : Int) := of_decide_eq_true (by first | (with_reducible assumption) | assumption)
       have q167 : (ji100) < (y166.length : Int) := (by have h_ : ((ji100) : Int) < ((x131001_1.length : Int) : Int) := of_decide_eq_true (by first | (with_reducible assumption) | assumption); first | (have e_ := (Kd.R_reads' HO_131001.out).1; omega) | simpa only [Ny166.out, List.length_set] using h_)
       have ql167 : (((ji100) : Int) < ((x131001_1.length : Int) : Int)) = True := eq_true (of_decide_eq_true (by first | (with_reducible assumption) | assumption))
       obtain ⟨ad167, e167, hx167_0⟩ := Kd.at_int (Kd.R_reads' HO_131001.out).2.2 (ji100) p167 q167
       obtain rfl : (⟨go110, 0, none⟩ : Addr) = ad167 := (by injection e167)
       (first | simp only [add_plain] at hx167_0 | simp only [add_at] at hx167_0 | simp only [Addr.add, Nat.zero_add] at hx167_0 | skip)
       replace p167 := eq_true p167; replace q167 := eq_true q167
       have p112 : 0 ≤ ((ji100) : Int) := of_decide_eq_true (by first | (with_reducible assumption) | assumption)
       have q112 : ((ji100) : Int) < ((x131001_1.length : Int) : Int) := of_decide_eq_true (by first | (with_reducible assumption) | assumption)
       obtain ⟨hx112_0, hf112_0⟩ := Kd.R_celln 0 HO_131001.out ((ji100) : Int) p112 q112
       replace p112 := eq_true p112; replace q112 := eq_true q112
       have HP129 := Kd.R_putn HO_131001.out ((ji100) : Int) (wrap64 ((rd y166 (ji100)) + t160))
       rw [← Ny168.out] at HP129
       have HQ129 := Aside0.mk HP129; clear HP129
       refine start_ (n := 12) (S := fun w' => w'.cell? ⟨gb130, 0, none⟩ = some (.slice (some ⟨go106, 0, none⟩) x131000_1.length co118) ∧ w'.cell? ⟨gb130, 1, none⟩ = some (.slice (some ⟨go110, 0, none⟩) x131001_1.length co125) ∧ w'.cell? ⟨go110, ((ji100)).toNat, none⟩ = some (.int .i64 (rd y166 (ji100)))) (ds := [11]) #[false, false, false, false, false, false, false, false, false, false, false, false] (by kernel_rfl) rfl rfl ⟨(blk_cell BK130.out 0).trans rfl, (blk_cell BK130.out 1).trans rfl, hx167_0⟩ (fun hHeld => ?_); refine with_tabW spec_l17Step.tab25 spec_l17Step.bits25 (fun HT_ HW_ => ?_)
       generalize w127.drew = w128 at HO_131000 HO_131001 BK116 BK117 BK130 HB HQ126 HQ129 hf112_0 hx112_0 hx167_0 hHeld ⊢
       refine pT_ 0 (some 177) #[true, false, false, false, false, false, false, false, false, false, false, false] HT_ ?_
       refine pT_ 2 (some 179) #[true, false, true, false, false, false, false, false, false, false, false, false] HT_ ?_
       refine pT_ 3 (some 180) #[true, false, true, true, false, false, false, false, false, false, false, false] HT_ ?_
       refine pT_ 5 (some 182) #[true, false, true, true, false, true, false, false, false, false, false, false] HT_ ?_
       refine pT_ 8 (some 185) #[true, false, true, true, false, true, false, false, true, false, false, false] HT_ ?_
       refine tT_ 1 (some 178) #[true, true, true, true, false, true, false, false, true, false, false, false] HT_ HW_ hHeld ?_ (hy := by rintro w' ⟨s0, s1, s2⟩; go_simp; with_reducible rfl)
       refine tT_ 4 (some 181) #[true, true, true, true, true, true, false, false, true, false, false, false] HT_ HW_ hHeld ?_ (hy := by rintro w' ⟨s0, s1, s2⟩; go_simp; with_reducible rfl)
       refine pT_ 6 (some 183) #[true, true, true, true, true, true, true, false, true, false, false, false] HT_ ?_
       refine tT_ 7 (some 184) #[true, true, true, true, true, true, true, true, true, false, false, false] HT_ HW_ hHeld ?_ (hy := by rintro w' ⟨s0, s1, s2⟩; go_simp; with_reducible rfl)
       refine pT_ 9 (some 186) #[true, true, true, true, true, true, true, true, true, true, false, false] HT_ ?_
       refine pT_ 10 (some 187) #[true, true, true, true, true, true, true, true, true, true, true, false] HT_ ?_
       refine last_ (i := 11) (N := none) #[true, true, true, true, true, true, true, true, true, true, true, true] rfl rfl (one_of HT_.out (by kernel_rfl)) (by decide) (fun K hK => ?_)
       refine skip_ (w1 := ?_) (by rfl) rfl ?_ ?_
       rotate_left
       ·go_simp
        rfl
       refine hK.out _ _ ?_
       clear hK K
       refine done_ (done_of HT_.out (by kernel_rfl)) ?_
       try go_wp2
       go_roundg k1
       case measure => have := HK1.out; omega
       case rel => exact ⟨(wrap64 (x7_1 + 1)), (y164), (y168), (.slice (some ⟨go106, 0, none⟩) x131000_1.length co118), (.slice (some ⟨go110, 0, none⟩) x131001_1.length co125), (by first | rfl | (simp; done) | (simp [*]; done)), H', ⟨by have := HK1.out; omega⟩, ⟨by (with_reducible repeat (first | apply Kd.R_alloc | apply Kd.R_drewN | apply Kd.R_drew)); exact Kd.R_mono (Kd.R_far (p := ⟨go110, ((ji100) : Int).toNat, none⟩) (Kd.R_mono HO_131000.out (fun k_ hk => (⟨hk, fun e_ => hk (by rw [e_]; rfl)⟩ : _ ∧ k_ ≠ go110))) (fun _ hk => hk.2) (.int .i64 (wrap64 ((rd y166 (ji100)) + t160)))) (fun _ hk => hk.1)⟩, ⟨by (with_reducible repeat (first | apply Kd.R_alloc | apply Kd.R_drewN | apply Kd.R_drew)); exact HQ129.out⟩, ⟨by (with_reducible repeat (first | refine blk_drewN ?_ _ | refine blk_drew ?_ | refine blk_alloc ?_ _)); refine blk_far ?_ (by have h_ := Kd.R_ne HO_131001.out BK116.out (by decide); intro e_; exact h_ (by rw [e_]; rfl)) _; exact bT_ BK116⟩, ⟨by (with_reducible repeat (first | refine blk_drewN ?_ _ | refine blk_drew ?_ | refine blk_alloc ?_ _)); refine blk_far ?_ (by have h_ := Kd.R_ne HO_131001.out BK117.out (by decide); intro e_; exact h_ (by rw [e_]; rfl)) _; exact bT_ BK117⟩, ⟨by (with_reducible repeat (first | refine blk_drewN ?_ _ | refine blk_drew ?_ | refine blk_alloc ?_ _)); refine blk_far ?_ (by have h_ := Kd.R_ne HO_131001.out BK130.out (by decide); intro e_; exact h_ (by rw [e_]; rfl)) _; exact bT_ BK130⟩, ⟨by repeat (first | (with_reducible first | exact HB.out | apply below_alloc | apply pw_below_drewN | apply below_drew1 | refine below_set ?_ GB110.out | refine below_set ?_ GE116.out | refine below_set ?_ GE117.out | refine below_set ?_ GE130.out) | exact HB.out)⟩⟩
      ·rw [if_neg c103] at H
       have c103b0 : decide (0 < (rd l1 (ji100))) = false := decide_eq_false c103
       clear c103; have H' := Aside0.mk H; clear H; have hnb130 := NB116_117.out; have hnc130 := NB117_116.out; have hnb131 := NB116_130.out; have hnc131 := NB130_116.out
       have hcz132_0 : wr.cell? ⟨gb116, 0, none⟩ = some (.slice A0_0 l0_0.length c0_0) := (blk_cell BK116.out 0).trans rfl
       have hcz132_1 : wr.cell? ⟨gb116, 1, none⟩ = some (.slice A0_1 l0_1.length c0_1) := (blk_cell BK116.out 1).trans rfl
       have hfz132_0 := blk_frozen BK116.out 0; have hfz132_1 := blk_frozen BK116.out 1
       have p131 : 0 ≤ (x7_1 : Int) := of_decide_eq_true (by first | (with_reducible assumption) | assumption)
       have q131 : x7_1 < (l0_0.length : Int) := of_decide_eq_true (by first | (with_reducible assumption) | assumption)
       obtain ⟨ad131, e131, hx131_0⟩ := Kd.at_int HR0_0.out x7_1 p131 q131
       cases e131
       replace hx131_0 := (HB.out.cell (World.block_lt_of_cell? w _ hx131_0)).trans hx131_0
       replace p131 := eq_true p131; replace q131 := eq_true q131
       have p132 : 0 ≤ (x7_1 : Int) := of_decide_eq_true (by first | (with_reducible assumption) | assumption)
       have q132 : x7_1 < (l0_1.length : Int) := of_decide_eq_true (by first | (with_reducible assumption) | assumption)
       obtain ⟨ad132, e132, hx132_0⟩ := Kd.at_int HR0_1.out x7_1 p132 q132
       cases e132
       replace hx132_0 := (HB.out.cell (World.block_lt_of_cell? w _ hx132_0)).trans hx132_0
       replace p132 := eq_true p132; replace q132 := eq_true q132
       have p133 : 0 ≤ (x7_1 : Int) := of_decide_eq_true (by first | (with_reducible assumption) | assumption)
       have q133 : x7_1 < (l1.length : Int) := of_decide_eq_true (by first | (with_reducible assumption) | assumption)
       obtain ⟨ad133, e133, hx133_0⟩ := Kd.at_int HR1.out x7_1 p133 q133
       cases e133
       replace hx133_0 := (HB.out.cell (World.block_lt_of_cell? w _ hx133_0)).trans hx133_0
       replace p133 := eq_true p133; replace q133 := eq_true q133
       have p157 : 0 ≤ ((ji100) : Int) := of_decide_eq_true (by first | (with_reducible assumption) | assumption)
       have q157 : (ji100) < (l1.length : Int) := of_decide_eq_true (by first | (with_reducible assumption) | assumption)
       obtain ⟨ad157, e157, hx157_0⟩ := Kd.at_int HR1.out (ji100) p157 q157
       obtain rfl : ad133 = ad157 := (by injection e157)
       replace hx157_0 := (HB.out.cell (World.block_lt_of_cell? w _ hx157_0)).trans hx157_0
       replace p157 := eq_true p157; replace q157 := eq_true q157
       go_wp2
       go_roundg k1
       case measure => have := HK1.out; omega
       case rel => exact ⟨(wrap64 (x7_1 + 1)), (x131000_1), (x131001_1), (u131000), (u131001), (by first | rfl | (simp; done) | (simp [*]; done)), H', ⟨by have := HK1.out; omega⟩, ⟨by (with_reducible repeat (first | apply Kd.R_alloc | apply Kd.R_drewN | apply Kd.R_drew)); exact HO_131000.out⟩, ⟨by (with_reducible repeat (first | apply Kd.R_alloc | apply Kd.R_drewN | apply Kd.R_drew)); exact HO_131001.out⟩, ⟨by exact bT_ BK116⟩, ⟨by exact bT_ BK117⟩, ⟨by exact bT_ BK130⟩, ⟨by repeat (first | (with_reducible first | exact HB.out | apply below_alloc | apply pw_below_drewN | apply below_drew1 | refine below_set ?_ GE116.out | refine below_set ?_ GE117.out | refine below_set ?_ GE130.out) | exact HB.out)⟩⟩
   ·rw [if_neg c24] at H
    have c24b0 : decide (x7_1 < (l0_0.length : Int)) = false := decide_eq_false c24
    clear c24
    simp only [Option.some.injEq, Prod.mk.injEq] at H
    obtain ⟨rfl, rfl⟩ := H
    have hnb133 := NB130_116.out; have hnc133 := NB116_130.out; have hnb134 := NB130_117.out; have hnc134 := NB117_130.out
    have hcz135_0 : wr.cell? ⟨gb130, 0, none⟩ = some (u131000) := (blk_cell BK130.out 0).trans rfl
    have hcz135_1 : wr.cell? ⟨gb130, 1, none⟩ = some (u131001) := (blk_cell BK130.out 1).trans rfl
    have hfz135_0 := blk_frozen BK130.out 0; have hfz135_1 := blk_frozen BK130.out 1
    obtain ⟨Ao136, co136, eo136⟩ := Kd.R_slice HO_131000.out
    subst eo136
    have hnb137 := NB117_116.out; have hnc137 := NB116_117.out
    have hcz138_0 : wr.cell? ⟨gb117, 0, none⟩ = some (.slice none 0 0) := (blk_cell BK117.out 0).trans rfl
    have hcz138_1 : wr.cell? ⟨gb117, 1, none⟩ = some (.slice none 0 0) := (blk_cell BK117.out 1).trans rfl
    have hfz138_0 := blk_frozen BK117.out 0; have hfz138_1 := blk_frozen BK117.out 1
    obtain ⟨Ao139, co139, eo139⟩ := Kd.R_slice HO_131001.out
    subst eo139
    go_wp2
    refine bodyPost_ret (results_cell_row rfl _ _ gb117 26 #[.slice Ao136 x131000_1.length co136, .slice Ao139 x131001_1.length co139] (0, 0) _ rfl (by (with_reducible repeat (first | refine blk_drewN ?_ _ | refine blk_drew ?_ | refine blk_alloc ?_ _)); refine blk_put (cs := #[.slice Ao136 x131000_1.length co136, .slice none 0 0]) ?_ 1 _ rfl; (with_reducible repeat (first | refine blk_drewN ?_ _ | refine blk_drew ?_ | refine blk_alloc ?_ _)); refine blk_put (cs := #[.slice none 0 0, .slice none 0 0]) ?_ 0 _ rfl; exact bT_ BK117) Try.underlying26 rfl (by kernel_rfl)) rfl ?_
    exact ⟨_, _, by first | rfl | (simp [errW_none, errW_some] <;> rfl) | (simp [*, errW_none, errW_some] <;> rfl), by (with_reducible repeat (first | apply Kd.R_alloc | apply Kd.R_drewN | apply Kd.R_drew)); exact Kd.R_mono (Kd.R_far (p := ⟨gb117, 1, none⟩) (Kd.R_far (p := ⟨gb117, 0, none⟩) (Kd.R_types HO_131000.out BK117.out (by decide)) (fun _ hk => hk.2) (.slice Ao136 x131000_1.length co136)) (fun _ hk => hk.2) (.slice Ao139 x131001_1.length co139)) (fun _ hk => hk.1), by (with_reducible repeat (first | apply Kd.R_alloc | apply Kd.R_drewN | apply Kd.R_drew)); exact Kd.R_mono (Kd.R_far (p := ⟨gb117, 1, none⟩) (Kd.R_far (p := ⟨gb117, 0, none⟩) (Kd.R_types HO_131001.out BK117.out (by decide)) (fun _ hk => hk.2) (.slice Ao136 x131000_1.length co136)) (fun _ hk => hk.2) (.slice Ao139 x131001_1.length co139)) (fun _ hk => hk.1), by repeat (first | (with_reducible first | exact HB.out | apply below_alloc | apply pw_below_drewN | apply below_drew1 | refine below_set ?_ GE116.out | refine below_set ?_ GE117.out | refine below_set ?_ GE130.out) | exact HB.out)⟩

end Go.Proofs.Ytjmpgngndnheaaa.QFnExactAdvect
