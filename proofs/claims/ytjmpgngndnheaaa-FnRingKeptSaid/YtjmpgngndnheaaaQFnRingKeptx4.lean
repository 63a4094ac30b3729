-- Written by a program of this session out of the printer's texts and contracts of its own.
import Derived.Test.YtjmpgngndnheaaaSq
import Derived.Test.YtjmpgngndnheaaaQFnRingKeptx0
import Derived.Test.YtjmpgngndnheaaaQFnRingKeptx3
namespace Go.Proofs.Ytjmpgngndnheaaa.QFnRingKept
open Go.RowKit Go.Proofs.YtjmpgngndnheaaaW.PrintWords Go.Proofs.YtjmpgngndnheaaaW.PrintLast Go.Proofs.YtjmpgngndnheaaaW.PrintMore Go.Proofs.Ytjmpgngndnheaaa.Sq
attribute [local go_sem] max2_int min2_int max_two min_two max_three min_three max_four min_four   -- for this text's walks alone
set_option linter.unusedVariables false
set_option linter.unusedSimpArgs false
theorem sABelo_4 {b : Nat} {w W : World} (h : Below b w W := by repeat (first | (with_reducible first | exact Aside0.out (by assumption) | apply below_alloc | apply pw_below_drewN | apply below_drew1 | refine below_set ?_ (Aside0.out (by assumption))) | exact Aside0.out (by assumption))) : Below b w W := h

/-! ### spec_l17Step: function 27 -/
mutual
def spec_l17Step.l0 : Nat → List Int → Int → Int → List Int → List Int → List Int → List Int → Option (List Int × List Int)
 | 0, _, _, _, _, _, _, _ => none
 | k + 1, x1, x5, x7, x175000, x175001, x189000, x189001 => if x7 < x5 then (if 0 ≤ x7 then (if x7 < (x175000.length : Int) then (if x7 < (x175001.length : Int) then (if x5 = 0 then (none) else (if x7 < (x1.length : Int) then (if (rd x1 x7) < 0 then ((spec_l17Part.f (rd x175001 x7) (wrap64 (Int.tdiv (wrap64 ((rd x175000 x7) * (wrap64 (-(rd x1 x7))))) 256)) (rd x175000 x7)).bind fun t194 => (if x7 < (x189000.length : Int) then ((some (x189000.set (x7 : Int).toNat (wrap64 ((rd x189000 x7) - (wrap64 (Int.tdiv (wrap64 ((rd x175000 x7) * (wrap64 (-(rd x1 x7))))) 256)))) : List Int)).bind fun y196 => (if 0 ≤ (Int.tmod (wrap64 ((wrap64 (x7 + x5)) - 1)) x5) then (if (Int.tmod (wrap64 ((wrap64 (x7 + x5)) - 1)) x5) < (x189000.length : Int) then (if x7 < (x189001.length : Int) then ((some (x189001.set (x7 : Int).toNat (wrap64 ((rd x189001 x7) - t194)) : List Int)).bind fun y200 => (if (Int.tmod (wrap64 ((wrap64 (x7 + x5)) - 1)) x5) < (x189001.length : Int) then (spec_l17Step.j1 k x1 x5 x7 (wrap64 ((rd x175000 x7) - (wrap64 (Int.tdiv (wrap64 ((rd x175000 x7) * (wrap64 (-(rd x1 x7))))) 256)))) (wrap64 ((rd x175001 x7) - t194)) (Int.tmod (wrap64 (x7 + 1)) x5) x175000 x175001 (y196.set ((Int.tmod (wrap64 ((wrap64 (x7 + x5)) - 1)) x5) : Int).toNat (wrap64 ((rd y196 (Int.tmod (wrap64 ((wrap64 (x7 + x5)) - 1)) x5)) + (wrap64 (Int.tdiv (wrap64 ((rd x175000 x7) * (wrap64 (-(rd x1 x7))))) 256))))) (y200.set ((Int.tmod (wrap64 ((wrap64 (x7 + x5)) - 1)) x5) : Int).toNat (wrap64 ((rd y200 (Int.tmod (wrap64 ((wrap64 (x7 + x5)) - 1)) x5)) + t194)))) else (none))) else (none)) else (none)) else (none))) else (none))) else (spec_l17Step.j1 k x1 x5 x7 (rd x175000 x7) (rd x175001 x7) (Int.tmod (wrap64 (x7 + 1)) x5) x175000 x175001 x189000 x189001)) else (none))) else (none)) else (none)) else (none)) else (some (x189000, x189001))
def spec_l17Step.j1 : Nat → List Int → Int → Int → Int → Int → Int → List Int → List Int → List Int → List Int → Option (List Int × List Int)
 | 0, _, _, _, _, _, _, _, _, _, _ => none
 | k + 1, x1, x5, x7, x8, x9, x11, x175000, x175001, x189000, x189001 => if 0 ≤ x11 then (if x11 < (x1.length : Int) then (if (rd x1 x11) > 0 then (if 0 ≤ x7 then (if x7 < (x175000.length : Int) then ((spec_l17Part.f x9 (wrap64 (Int.tdiv (wrap64 ((rd x175000 x7) * (rd x1 x11))) 256)) x8).bind fun t206 => (if x7 < (x189000.length : Int) then ((some (x189000.set (x7 : Int).toNat (wrap64 ((rd x189000 x7) - (wrap64 (Int.tdiv (wrap64 ((rd x175000 x7) * (rd x1 x11))) 256)))) : List Int)).bind fun y208 => (if x11 < (x189000.length : Int) then (if x7 < (x189001.length : Int) then ((some (x189001.set (x7 : Int).toNat (wrap64 ((rd x189001 x7) - t206)) : List Int)).bind fun y212 => (if x11 < (x189001.length : Int) then (spec_l17Step.l0 k x1 x5 (wrap64 (x7 + 1)) x175000 x175001 (y208.set (x11 : Int).toNat (wrap64 ((rd y208 x11) + (wrap64 (Int.tdiv (wrap64 ((rd x175000 x7) * (rd x1 x11))) 256))))) (y212.set (x11 : Int).toNat (wrap64 ((rd y212 x11) + t206)))) else (none))) else (none)) else (none))) else (none))) else (none)) else (none)) else (spec_l17Step.l0 k x1 x5 (wrap64 (x7 + 1)) x175000 x175001 x189000 x189001)) else (none)) else (none)
end
def spec_l17Step.f (k : Nat) (l0_0 : List Int) (l0_1 : List Int) (l1 : List Int) : Option (List Int × List Int) := (some (([] : List Int) : List Int)).bind fun y176 => (if y176.length + l0_0.length < 17592186044416 then ((some (([] : List Int) : List Int)).bind fun y182 => (if y182.length + l0_1.length < 17592186044416 then (spec_l17Step.l0 k l1 (l0_0.length : Int) 0 l0_0 l0_1 (y176 ++ l0_0) (y182 ++ l0_1)) else (none))) else (none))
theorem spec_l17Step.mono_l : ∀ k, (∀ y0 y1 y2 y3 y4 y5 y6, LeO (spec_l17Step.l0 k y0 y1 y2 y3 y4 y5 y6) (spec_l17Step.l0 (k + 1) y0 y1 y2 y3 y4 y5 y6)) ∧ (∀ y0 y1 y2 y3 y4 y5 y6 y7 y8 y9, LeO (spec_l17Step.j1 k y0 y1 y2 y3 y4 y5 y6 y7 y8 y9) (spec_l17Step.j1 (k + 1) y0 y1 y2 y3 y4 y5 y6 y7 y8 y9))
 | 0 => ⟨fun _ _ _ _ _ _ _ r h => by simp [spec_l17Step.l0] at h, fun _ _ _ _ _ _ _ _ _ _ r h => by simp [spec_l17Step.j1] at h⟩
 | k + 1 => by
  obtain ⟨ih0, ih1⟩ := spec_l17Step.mono_l k
  refine ⟨?_, ?_⟩
  intro y0 y1 y2 y3 y4 y5 y6; unfold spec_l17Step.l0; rotate_left
  intro y0 y1 y2 y3 y4 y5 y6 y7 y8 y9; unfold spec_l17Step.j1; rotate_left
  all_goals repeat' first
  | (with_reducible exact ih0 _ _ _ _ _ _ _)
  | (with_reducible exact ih1 _ _ _ _ _ _ _ _ _ _)
  | (with_reducible exact LeO.refl _)
  | (with_reducible exact LeO.none _)
  | (with_reducible refine LeO.ite ?_ ?_)
  | (with_reducible refine LeO.bind ?_ (fun _ => ?_))
  | exact ih0 _ _ _ _ _ _ _
  | exact ih1 _ _ _ _ _ _ _ _ _ _
  | exact LeO.none _
  | refine LeO.ite ?_ ?_
  | refine LeO.bind ?_ (fun _ => ?_)
theorem spec_l17Step.mono : ∀ a0 a1 a2 k, LeO (spec_l17Step.f k a0 a1 a2) (spec_l17Step.f (k + 1) a0 a1 a2) := by
 intro a0 a1 a2 k
 obtain ⟨ih0, ih1⟩ := spec_l17Step.mono_l k
 unfold spec_l17Step.f
 repeat' first
   | (with_reducible exact ih0 _ _ _ _ _ _ _)
   | (with_reducible exact ih1 _ _ _ _ _ _ _ _ _ _)
   | (with_reducible exact LeO.refl _)
   | (with_reducible exact LeO.none _)
   | (with_reducible refine LeO.ite ?_ ?_)
   | (with_reducible refine LeO.bind ?_ (fun _ => ?_))
   | exact ih0 _ _ _ _ _ _ _
   | exact ih1 _ _ _ _ _ _ _ _ _ _
   | exact LeO.none _
   | refine LeO.ite ?_ ?_
   | refine LeO.bind ?_ (fun _ => ?_)
def spec_l17Step.T2 : Bool × List (List Nat × List Nat) := (true, [([], []), ([], []), ([1], [1]), ([0, 2], [0, 2]), ([], []), ([], []), ([5], [5]), ([4, 6, 3], [4, 6]), ([3, 7], [3, 7]), ([], []), ([9, 8, 7, 0, 1, 2, 3, 4, 5, 6, 7, 8, 9], [8, 9])])
def spec_l17Step.B2 : List Nat := [0, 0, 2, 7, 0, 0, 32, 127, 255, 0, 1023]
theorem spec_l17Step.tab2 : rtab .any (opsOf Try.f27 2) = spec_l17Step.T2 := by kernel_rfl
theorem spec_l17Step.bits2 : waitsOk spec_l17Step.T2.2 spec_l17Step.B2 = true := by kernel_rfl
def spec_l17Step.T11 : Bool × List (List Nat × List Nat) := (true, [([], []), ([0], [0]), ([], []), ([1, 2], [1, 2]), ([3], [3]), ([], []), ([], []), ([5, 6], [5, 6]), ([7], [7]), ([8], [8]), ([4, 9], [4, 9]), ([10], [10]), ([11, 0, 1, 2, 3, 4, 5, 6, 7, 8, 9, 10, 11], [11])])
def spec_l17Step.B11 : List Nat := [0, 1, 0, 7, 15, 0, 0, 96, 224, 480, 1023, 2047, 4095]
theorem spec_l17Step.tab11 : rtab .any (opsOf Try.f27 11) = spec_l17Step.T11 := by kernel_rfl
theorem spec_l17Step.bits11 : waitsOk spec_l17Step.T11.2 spec_l17Step.B11 = true := by kernel_rfl
def spec_l17Step.T13 : Bool × List (List Nat × List Nat) := (true, [([], []), ([0], [0]), ([], []), ([], []), ([3], [3]), ([], []), ([4, 5], [4, 5]), ([6], [6]), ([], []), ([7, 8], [7, 8]), ([1, 2, 0, 1, 2, 3, 4, 5, 6, 7, 8, 9], [1, 2]), ([10, 9, 0, 1, 2, 3, 4, 5, 6, 7, 8, 9], [9, 10])])
def spec_l17Step.B13 : List Nat := [0, 1, 0, 0, 8, 0, 56, 120, 0, 504, 1023, 2047]
theorem spec_l17Step.tab13 : rtab .any (opsOf Try.f27 13) = spec_l17Step.T13 := by kernel_rfl
theorem spec_l17Step.bits13 : waitsOk spec_l17Step.T13.2 spec_l17Step.B13 = true := by kernel_rfl
def spec_l17Step.T14 : Bool × List (List Nat × List Nat) := (true, [([], []), ([0], [0]), ([], []), ([], []), ([3], [3]), ([], []), ([4, 5], [4, 5]), ([6], [6]), ([], []), ([7, 8], [7, 8]), ([1, 2, 0, 1, 2, 3, 4, 5, 6, 7, 8, 9], [1, 2]), ([10, 9, 0, 1, 2, 3, 4, 5, 6, 7, 8, 9], [9, 10])])
def spec_l17Step.B14 : List Nat := [0, 1, 0, 0, 8, 0, 56, 120, 0, 504, 1023, 2047]
theorem spec_l17Step.tab14 : rtab .any (opsOf Try.f27 14) = spec_l17Step.T14 := by kernel_rfl
theorem spec_l17Step.bits14 : waitsOk spec_l17Step.T14.2 spec_l17Step.B14 = true := by kernel_rfl
def spec_l17Step.T15 : Bool × List (List Nat × List Nat) := (true, [([], []), ([0], [0]), ([], []), ([], []), ([3], [3]), ([], []), ([4, 5], [4, 5]), ([6], [6]), ([], []), ([7, 8], [7, 8]), ([1, 2, 0, 1, 2, 3, 4, 5, 6, 7, 8, 9], [1, 2]), ([10, 9, 0, 1, 2, 3, 4, 5, 6, 7, 8, 9], [9, 10])])
def spec_l17Step.B15 : List Nat := [0, 1, 0, 0, 8, 0, 56, 120, 0, 504, 1023, 2047]
theorem spec_l17Step.tab15 : rtab .any (opsOf Try.f27 15) = spec_l17Step.T15 := by kernel_rfl
theorem spec_l17Step.bits15 : waitsOk spec_l17Step.T15.2 spec_l17Step.B15 = true := by kernel_rfl
def spec_l17Step.T16 : Bool × List (List Nat × List Nat) := (true, [([], []), ([0], [0]), ([], []), ([], []), ([3], [3]), ([], []), ([4, 5], [4, 5]), ([6], [6]), ([], []), ([7, 8], [7, 8]), ([1, 2, 0, 1, 2, 3, 4, 5, 6, 7, 8, 9], [1, 2]), ([10, 9, 0, 1, 2, 3, 4, 5, 6, 7, 8, 9], [9, 10])])
def spec_l17Step.B16 : List Nat := [0, 1, 0, 0, 8, 0, 56, 120, 0, 504, 1023, 2047]
theorem spec_l17Step.tab16 : rtab .any (opsOf Try.f27 16) = spec_l17Step.T16 := by kernel_rfl
theorem spec_l17Step.bits16 : waitsOk spec_l17Step.T16.2 spec_l17Step.B16 = true := by kernel_rfl
def spec_l17Step.T20 : Bool × List (List Nat × List Nat) := (true, [([], []), ([0], [0]), ([], []), ([1, 2], [1, 2]), ([3], [3]), ([], []), ([], []), ([5, 6], [5, 6]), ([7], [7]), ([4, 8], [4, 8]), ([9], [9]), ([10, 0, 1, 2, 3, 4, 5, 6, 7, 8, 9, 10], [10])])
def spec_l17Step.B20 : List Nat := [0, 1, 0, 7, 15, 0, 0, 96, 224, 511, 1023, 2047]
theorem spec_l17Step.tab20 : rtab .any (opsOf Try.f27 20) = spec_l17Step.T20 := by kernel_rfl
theorem spec_l17Step.bits20 : waitsOk spec_l17Step.T20.2 spec_l17Step.B20 = true := by kernel_rfl
def spec_l17Step.T22 : Bool × List (List Nat × List Nat) := (true, [([], []), ([0], [0]), ([], []), ([], []), ([3], [3]), ([], []), ([4, 5], [4, 5]), ([6], [6]), ([], []), ([7, 8], [7, 8]), ([1, 2, 0, 1, 2, 3, 4, 5, 6, 7, 8, 9], [1, 2]), ([10, 9, 0, 1, 2, 3, 4, 5, 6, 7, 8, 9], [9, 10])])
def spec_l17Step.B22 : List Nat := [0, 1, 0, 0, 8, 0, 56, 120, 0, 504, 1023, 2047]
theorem spec_l17Step.tab22 : rtab .any (opsOf Try.f27 22) = spec_l17Step.T22 := by kernel_rfl
theorem spec_l17Step.bits22 : waitsOk spec_l17Step.T22.2 spec_l17Step.B22 = true := by kernel_rfl
def spec_l17Step.T23 : Bool × List (List Nat × List Nat) := (true, [([], []), ([0], [0]), ([], []), ([], []), ([3], [3]), ([], []), ([4, 5], [4, 5]), ([6], [6]), ([], []), ([7, 8], [7, 8]), ([1, 2, 0, 1, 2, 3, 4, 5, 6, 7, 8, 9], [1, 2]), ([10, 9, 0, 1, 2, 3, 4, 5, 6, 7, 8, 9], [9, 10])])
def spec_l17Step.B23 : List Nat := [0, 1, 0, 0, 8, 0, 56, 120, 0, 504, 1023, 2047]
theorem spec_l17Step.tab23 : rtab .any (opsOf Try.f27 23) = spec_l17Step.T23 := by kernel_rfl
theorem spec_l17Step.bits23 : waitsOk spec_l17Step.T23.2 spec_l17Step.B23 = true := by kernel_rfl
def spec_l17Step.T24 : Bool × List (List Nat × List Nat) := (true, [([], []), ([0], [0]), ([], []), ([], []), ([3], [3]), ([], []), ([4, 5], [4, 5]), ([6], [6]), ([], []), ([7, 8], [7, 8]), ([1, 2, 0, 1, 2, 3, 4, 5, 6, 7, 8, 9], [1, 2]), ([10, 9, 0, 1, 2, 3, 4, 5, 6, 7, 8, 9], [9, 10])])
def spec_l17Step.B24 : List Nat := [0, 1, 0, 0, 8, 0, 56, 120, 0, 504, 1023, 2047]
theorem spec_l17Step.tab24 : rtab .any (opsOf Try.f27 24) = spec_l17Step.T24 := by kernel_rfl
theorem spec_l17Step.bits24 : waitsOk spec_l17Step.T24.2 spec_l17Step.B24 = true := by kernel_rfl
def spec_l17Step.T25 : Bool × List (List Nat × List Nat) := (true, [([], []), ([0], [0]), ([], []), ([], []), ([3], [3]), ([], []), ([4, 5], [4, 5]), ([6], [6]), ([], []), ([7, 8], [7, 8]), ([1, 2, 0, 1, 2, 3, 4, 5, 6, 7, 8, 9], [1, 2]), ([10, 9, 0, 1, 2, 3, 4, 5, 6, 7, 8, 9], [9, 10])])
def spec_l17Step.B25 : List Nat := [0, 1, 0, 0, 8, 0, 56, 120, 0, 504, 1023, 2047]
theorem spec_l17Step.tab25 : rtab .any (opsOf Try.f27 25) = spec_l17Step.T25 := by kernel_rfl
theorem spec_l17Step.bits25 : waitsOk spec_l17Step.T25.2 spec_l17Step.B25 = true := by kernel_rfl
set_option maxHeartbeats 8000000 in
set_option maxRecDepth 100000 in
theorem spec_l17Step.calls (k : Nat) (A0_0 : Option Addr) (c0_0 : Nat) (l0_0 : List Int) (A0_1 : Option Addr) (c0_1 : Nat) (l0_1 : List Int) (A1 : Option Addr) (c1 : Nat) (l1 : List Int) (r1 : List Int) (r2 : List Int) (w : World) (hr0_0 : Kd.C (Kd.int .i64) w A0_0 l0_0.length l0_0) (hc0_0 : l0_0.length ≤ c0_0) (hr0_1 : Kd.C (Kd.int .i64) w A0_1 l0_1.length l0_1) (hc0_1 : l0_1.length ≤ c0_1) (hr1 : Kd.C (Kd.int .i64) w A1 l1.length l1) (hc1 : l1.length ≤ c1) (h : spec_l17Step.f k l0_0 l0_1 l1 = some (r1, r2)) :
  Calls Try.prog 27 #[.agg #[.slice A0_0 l0_0.length c0_0, .slice A0_1 l0_1.length c0_1], .slice A1 l1.length c1] w fun e w' => ∃ v0_ v1_ : Value, e = .returned (.agg #[v0_, v1_]) ∧ Kd.R (Kd.int .i64) 2 w' w.heap.size (fun k_ => some k_ ≠ (v1_ : Value).ownBlock) v0_ r1 ∧ Kd.R (Kd.int .i64) 2 w' w.heap.size (fun k_ => some k_ ≠ (v0_ : Value).ownBlock) v1_ r2 ∧ Below w.heap.size w w' := by
 have hu26 := Try.underlying26; have HR0_0 := Aside0.mk hr0_0; have HC0_0 := Aside0.mk hc0_0; clear hr0_0 hc0_0; have HR0_1 := Aside0.mk hr0_1; have HC0_1 := Aside0.mk hc0_1; clear hr0_1 hc0_1; have HR1 := Aside0.mk hr1; have HC1 := Aside0.mk hc1; clear hr1 hc1
 have HB := Aside0.mk (Below.refl w.heap.size w)
 have H : ((some (([] : List Int) : List Int)).bind fun y176 => (if y176.length + l0_0.length < 17592186044416 then ((some (([] : List Int) : List Int)).bind fun y182 => (if y182.length + l0_1.length < 17592186044416 then (spec_l17Step.l0 k l1 (l0_0.length : Int) 0 l0_0 l0_1 (y176 ++ l0_0) (y182 ++ l0_1)) else (none))) else (none))) = some (r1, r2) := h
 clear h
 obtain ⟨y176, hy176⟩ : ∃ y_ : List Int, y_ = (([] : List Int)) := ⟨_, rfl⟩
 replace H : (if y176.length + l0_0.length < 17592186044416 then ((some (([] : List Int) : List Int)).bind fun y182 => (if y182.length + l0_1.length < 17592186044416 then (spec_l17Step.l0 k l1 (l0_0.length : Int) 0 l0_0 l0_1 (y176 ++ l0_0) (y182 ++ l0_1)) else (none))) else (none)) = some (r1, r2) := by first | (rw [hy176]; with_reducible exact H) | (have H2_ := (Option.bind_some _ _).symm.trans H; rw [hy176]; with_reducible exact H2_) | (have H2_ := (Option.bind_some _ _).symm.trans H; with_reducible exact H2_) | with_reducible exact H | (rw [hy176]; exact H) | exact H
 have Ny176 := Aside0.mk hy176; clear hy176
 obtain ⟨c3, H⟩ := ifS_ H
 have LMc3 := Aside0.mk c3; clear c3
 obtain ⟨y179, hy179⟩ : ∃ y_ : List Int, y_ = (y176 ++ l0_0) := ⟨_, rfl⟩
 replace H : ((some (([] : List Int) : List Int)).bind fun y182 => (if y182.length + l0_1.length < 17592186044416 then (spec_l17Step.l0 k l1 (l0_0.length : Int) 0 l0_0 l0_1 y179 (y182 ++ l0_1)) else (none))) = some (r1, r2) := by first | (rw [hy179]; with_reducible exact H) | (have H2_ := (Option.bind_some _ _).symm.trans H; rw [hy179]; with_reducible exact H2_) | (have H2_ := (Option.bind_some _ _).symm.trans H; with_reducible exact H2_) | with_reducible exact H | (rw [hy179]; exact H) | exact H
 have Ny179 := Aside0.mk hy179; clear hy179
 obtain ⟨y182, hy182⟩ : ∃ y_ : List Int, y_ = (([] : List Int)) := ⟨_, rfl⟩
 replace H : (if y182.length + l0_1.length < 17592186044416 then (spec_l17Step.l0 k l1 (l0_0.length : Int) 0 l0_0 l0_1 y179 (y182 ++ l0_1)) else (none)) = some (r1, r2) := by first | (rw [hy182]; with_reducible exact H) | (have H2_ := (Option.bind_some _ _).symm.trans H; rw [hy182]; with_reducible exact H2_) | (have H2_ := (Option.bind_some _ _).symm.trans H; with_reducible exact H2_) | with_reducible exact H | (rw [hy182]; exact H) | exact H
 have Ny182 := Aside0.mk hy182; clear hy182
 obtain ⟨c4, H⟩ := ifS_ H
 have LMc4 := Aside0.mk c4; clear c4
 obtain ⟨y185, hy185⟩ : ∃ y_ : List Int, y_ = (y182 ++ l0_1) := ⟨_, rfl⟩
 replace H : (spec_l17Step.l0 k l1 (l0_0.length : Int) 0 l0_0 l0_1 y179 y185) = some (r1, r2) := by first | (rw [hy185]; with_reducible exact H) | (have H2_ := (Option.bind_some _ _).symm.trans H; rw [hy185]; with_reducible exact H2_) | (have H2_ := (Option.bind_some _ _).symm.trans H; with_reducible exact H2_) | with_reducible exact H | (rw [hy185]; exact H) | exact H
 have Ny185 := Aside0.mk hy185; clear hy185; have H' := Aside0.mk H; clear H
 go_enter Try.func27, Try.ntmps27
 try go_wp2_with (first | ((with_reducible refine gate_dst (N := 2) rfl ?_); refine box_event ?hg (N := 2) ?hd (cs := #[.slice A0_0 l0_0.length c0_0, .slice A0_1 l0_1.length c0_1]) (t := 26) ?hr ?_; (case hd => rfl); (case hg => rfl); (case hr => first | (go_simp; done) | (go_simp; rfl)); intro gb174 hg w5 hbox hb; have BK174 := Aside0.mk (hbox); have GW174 := gE_ HB hg; have GE174 := gE_ HB hg; replace HB := bS_ HB hb; clear hb hbox hg) | ((with_reducible refine gate_dst (N := 4) rfl ?_); refine box_event ?hg (N := 4) ?hd (cs := #[.slice none 0 0, .slice none 0 0]) (t := 26) ?hr ?_; (case hd => rfl); (case hg => rfl); (case hr => first | (go_simp; done) | (go_simp; rfl)); intro gb175 hg w6 hbox hb; have BK175 := Aside0.mk (hbox); have GW175 := gE_ HB hg; have GE175 := gE_ HB hg; replace HB := bS_ HB hb; have NB174_175 := nL_ BK174 hg; have NB175_174 := nG_ BK174 hg; replace BK174 := bB_ BK174 hb; clear hb hbox hg; have hnb7 := NB174_175.out; have hnc7 := NB175_174.out; have hcz8_0 : w6.cell? ⟨gb174, 0, none⟩ = some (.slice A0_0 l0_0.length c0_0) := (blk_cell BK174.out 0).trans rfl; have hcz8_1 : w6.cell? ⟨gb174, 1, none⟩ = some (.slice A0_1 l0_1.length c0_1) := (blk_cell BK174.out 1).trans rfl; have hfz8_0 := blk_frozen BK174.out 0; have hfz8_1 := blk_frozen BK174.out 1))
 replace BK174 := Aside0.mk (blk_drew BK174.out)
 replace BK175 := Aside0.mk (blk_drew BK175.out)
 replace HB := Aside0.mk (below_drew1 HB.out)
 refine start_ (n := 11) (S := fun w' => w'.cell? ⟨gb174, 0, none⟩ = some (.slice A0_0 l0_0.length c0_0) ∧ w'.cell? ⟨gb174, 1, none⟩ = some (.slice A0_1 l0_1.length c0_1)) (ds := []) #[false, false, false, false, false, false, false, false, false, false, false] (by kernel_rfl) rfl rfl ⟨(blk_cell BK174.out 0).trans rfl, (blk_cell BK174.out 1).trans rfl⟩ (fun hHeld => ?_); refine with_tabW spec_l17Step.tab2 spec_l17Step.bits2 (fun HT_ HW_ => ?_)
 generalize w6.drew = w9 at BK174 BK175 HB hHeld ⊢
 refine pT_ 1 (some 20) #[false, true, false, false, false, false, false, false, false, false, false] HT_ ?_
 refine pT_ 5 (some 24) #[false, true, false, false, false, true, false, false, false, false, false] HT_ ?_
 refine tT_ 2 (some 21) #[false, true, true, false, false, true, false, false, false, false, false] HT_ HW_ hHeld ?_ (hy := by rintro w' ⟨s0, s1⟩; go_simp; with_reducible rfl)
 refine tT_ 6 (some 25) #[false, true, true, false, false, true, true, false, false, false, false] HT_ HW_ hHeld ?_ (hy := by rintro w' ⟨s0, s1⟩; go_simp; with_reducible rfl)
 refine join_ (σ := Value × Value × Value × Value × Nat) 1 #[true, true, true, true, true, true, true, true, true, true, false] (fun s_ => [(19, s_.1), (22, s_.2.1), (23, s_.2.2.1), (26, s_.2.2.2.1), (6, .pointer (some ⟨s_.2.2.2.2, 0, none⟩)), (27, .agg #[s_.2.1, s_.2.2.2.1])]) (fun s_ w' => (w'.cell? ⟨gb174, 0, none⟩ = some (.slice A0_0 l0_0.length c0_0) ∧ w'.cell? ⟨gb174, 1, none⟩ = some (.slice A0_1 l0_1.length c0_1)) ∧ (Kd.R (Kd.int .i64) 2 w' w.heap.size (fun k_ => some k_ ≠ (s_.2.2.2.1 : Value).ownBlock) s_.2.1 y179) ∧ (Kd.R (Kd.int .i64) 2 w' w.heap.size (fun k_ => some k_ ≠ (s_.2.1 : Value).ownBlock) s_.2.2.2.1 y185) ∧ (w'.heap[gb174]? = some (.cells #[.slice A0_0 l0_0.length c0_0, .slice A0_1 l0_1.length c0_1] 26 (0, 0))) ∧ (w'.heap[gb175]? = some (.cells #[.slice none 0 0, .slice none 0 0] 26 (0, 0))) ∧ (w'.heap[s_.2.2.2.2]? = some (.cells #[.slice none 0 0, .slice none 0 0] 26 (0, 0))) ∧ (w.heap.size ≤ s_.2.2.2.2) ∧ (w.heap.size ≤ s_.2.2.2.2) ∧ (gb174 ≠ s_.2.2.2.2) ∧ (s_.2.2.2.2 ≠ gb174) ∧ (gb175 ≠ s_.2.2.2.2) ∧ (s_.2.2.2.2 ≠ gb175) ∧ (Below w.heap.size w w')) ?_ ?_
 rotate_left
 ·intro hJ0_3_4_7_9
  refine join_ (σ := Value × Value × Value × Value) 2 #[true, true, true, true, true, true, true, true, true, false, false] (fun s_ => [(19, s_.1), (22, s_.2.1), (23, s_.2.2.1), (26, s_.2.2.2), (27, .agg #[s_.2.1, s_.2.2.2])]) (fun s_ w' => (w'.cell? ⟨gb174, 0, none⟩ = some (.slice A0_0 l0_0.length c0_0) ∧ w'.cell? ⟨gb174, 1, none⟩ = some (.slice A0_1 l0_1.length c0_1)) ∧ (Kd.R (Kd.int .i64) 2 w' w.heap.size (fun k_ => some k_ ≠ (s_.2.2.2 : Value).ownBlock) s_.2.1 y179) ∧ (Kd.R (Kd.int .i64) 2 w' w.heap.size (fun k_ => some k_ ≠ (s_.2.1 : Value).ownBlock) s_.2.2.2 y185) ∧ (w'.heap[gb174]? = some (.cells #[.slice A0_0 l0_0.length c0_0, .slice A0_1 l0_1.length c0_1] 26 (0, 0))) ∧ (w'.heap[gb175]? = some (.cells #[.slice none 0 0, .slice none 0 0] 26 (0, 0))) ∧ (Below w.heap.size w w')) ?_ ?_
  rotate_left
  ·intro hJ0_3_4_7
   refine join_ (σ := Value × Value × Value × Nat) 3 #[true, true, true, true, true, true, true, false, false, true, false] (fun s_ => [(19, s_.1), (22, s_.2.1), (23, s_.2.2.1), (6, .pointer (some ⟨s_.2.2.2, 0, none⟩))]) (fun s_ w' => (w'.cell? ⟨gb174, 0, none⟩ = some (.slice A0_0 l0_0.length c0_0) ∧ w'.cell? ⟨gb174, 1, none⟩ = some (.slice A0_1 l0_1.length c0_1)) ∧ (Kd.R (Kd.int .i64) 2 w' w.heap.size (fun k_ => some k_ ≠ (s_.2.2.1 : Value).ownBlock) s_.2.1 y179) ∧ (Kd.R (Kd.int .i64) 2 w' w.heap.size (fun k_ => some k_ ≠ (s_.2.1 : Value).ownBlock) s_.2.2.1 y182) ∧ (w'.heap[gb174]? = some (.cells #[.slice A0_0 l0_0.length c0_0, .slice A0_1 l0_1.length c0_1] 26 (0, 0))) ∧ (w'.heap[gb175]? = some (.cells #[.slice none 0 0, .slice none 0 0] 26 (0, 0))) ∧ (w'.heap[s_.2.2.2]? = some (.cells #[.slice none 0 0, .slice none 0 0] 26 (0, 0))) ∧ (w.heap.size ≤ s_.2.2.2) ∧ (w.heap.size ≤ s_.2.2.2) ∧ (gb174 ≠ s_.2.2.2) ∧ (s_.2.2.2 ≠ gb174) ∧ (gb175 ≠ s_.2.2.2) ∧ (s_.2.2.2 ≠ gb175) ∧ (Below w.heap.size w w')) ?_ ?_
   rotate_left
   ·intro hJ0_3_4_9
    refine join_ (σ := Value × Value × Value) 4 #[true, true, true, true, true, true, true, false, false, false, false] (fun s_ => [(19, s_.1), (22, s_.2.1), (23, s_.2.2)]) (fun s_ w' => (w'.cell? ⟨gb174, 0, none⟩ = some (.slice A0_0 l0_0.length c0_0) ∧ w'.cell? ⟨gb174, 1, none⟩ = some (.slice A0_1 l0_1.length c0_1)) ∧ (Kd.R (Kd.int .i64) 2 w' w.heap.size (fun k_ => some k_ ≠ (s_.2.2 : Value).ownBlock) s_.2.1 y179) ∧ (Kd.R (Kd.int .i64) 2 w' w.heap.size (fun k_ => some k_ ≠ (s_.2.1 : Value).ownBlock) s_.2.2 y182) ∧ (w'.heap[gb174]? = some (.cells #[.slice A0_0 l0_0.length c0_0, .slice A0_1 l0_1.length c0_1] 26 (0, 0))) ∧ (w'.heap[gb175]? = some (.cells #[.slice none 0 0, .slice none 0 0] 26 (0, 0))) ∧ (Below w.heap.size w w')) ?_ ?_
    rotate_left
    ·intro hJ0_3_4
     refine join_ (σ := Value × Value × Nat) 4 #[true, true, true, true, false, true, true, false, false, true, false] (fun s_ => [(19, s_.1), (22, s_.2.1), (6, .pointer (some ⟨s_.2.2, 0, none⟩))]) (fun s_ w' => (w'.cell? ⟨gb174, 0, none⟩ = some (.slice A0_0 l0_0.length c0_0) ∧ w'.cell? ⟨gb174, 1, none⟩ = some (.slice A0_1 l0_1.length c0_1)) ∧ (Kd.R (Kd.int .i64) 2 w' w.heap.size (fun _ => True) s_.2.1 y179) ∧ (w'.heap[gb174]? = some (.cells #[.slice A0_0 l0_0.length c0_0, .slice A0_1 l0_1.length c0_1] 26 (0, 0))) ∧ (w'.heap[gb175]? = some (.cells #[.slice none 0 0, .slice none 0 0] 26 (0, 0))) ∧ (w'.heap[s_.2.2]? = some (.cells #[.slice none 0 0, .slice none 0 0] 26 (0, 0))) ∧ (w.heap.size ≤ s_.2.2) ∧ (w.heap.size ≤ s_.2.2) ∧ (gb174 ≠ s_.2.2) ∧ (s_.2.2 ≠ gb174) ∧ (gb175 ≠ s_.2.2) ∧ (s_.2.2 ≠ gb175) ∧ (Below w.heap.size w w')) ?_ ?_
     rotate_left
     ·intro hJ0_3_9
      refine join_ (σ := Value × Value × Nat) 4 #[true, true, true, false, true, true, true, false, false, true, false] (fun s_ => [(19, s_.1), (23, s_.2.1), (6, .pointer (some ⟨s_.2.2, 0, none⟩))]) (fun s_ w' => (w'.cell? ⟨gb174, 0, none⟩ = some (.slice A0_0 l0_0.length c0_0) ∧ w'.cell? ⟨gb174, 1, none⟩ = some (.slice A0_1 l0_1.length c0_1)) ∧ (Kd.R (Kd.int .i64) 2 w' w.heap.size (fun k_ => some k_ ≠ (s_.2.1 : Value).ownBlock) s_.1 y176) ∧ (Kd.R (Kd.int .i64) 2 w' w.heap.size (fun k_ => some k_ ≠ (s_.1 : Value).ownBlock) s_.2.1 y182) ∧ (w'.heap[gb174]? = some (.cells #[.slice A0_0 l0_0.length c0_0, .slice A0_1 l0_1.length c0_1] 26 (0, 0))) ∧ (w'.heap[gb175]? = some (.cells #[.slice none 0 0, .slice none 0 0] 26 (0, 0))) ∧ (w'.heap[s_.2.2]? = some (.cells #[.slice none 0 0, .slice none 0 0] 26 (0, 0))) ∧ (w.heap.size ≤ s_.2.2) ∧ (w.heap.size ≤ s_.2.2) ∧ (gb174 ≠ s_.2.2) ∧ (s_.2.2 ≠ gb174) ∧ (gb175 ≠ s_.2.2) ∧ (s_.2.2 ≠ gb175) ∧ (Below w.heap.size w w')) ?_ ?_
      rotate_left
      ·intro hJ0_4_9
       refine join_ (σ := Value × Value) 5 #[true, true, true, true, false, true, true, false, false, false, false] (fun s_ => [(19, s_.1), (22, s_.2)]) (fun s_ w' => (w'.cell? ⟨gb174, 0, none⟩ = some (.slice A0_0 l0_0.length c0_0) ∧ w'.cell? ⟨gb174, 1, none⟩ = some (.slice A0_1 l0_1.length c0_1)) ∧ (Kd.R (Kd.int .i64) 2 w' w.heap.size (fun _ => True) s_.2 y179) ∧ (w'.heap[gb174]? = some (.cells #[.slice A0_0 l0_0.length c0_0, .slice A0_1 l0_1.length c0_1] 26 (0, 0))) ∧ (w'.heap[gb175]? = some (.cells #[.slice none 0 0, .slice none 0 0] 26 (0, 0))) ∧ (Below w.heap.size w w')) ?_ ?_
       rotate_left
       ·intro hJ0_3
        refine join_ (σ := Value × Value) 5 #[true, true, true, false, true, true, true, false, false, false, false] (fun s_ => [(19, s_.1), (23, s_.2)]) (fun s_ w' => (w'.cell? ⟨gb174, 0, none⟩ = some (.slice A0_0 l0_0.length c0_0) ∧ w'.cell? ⟨gb174, 1, none⟩ = some (.slice A0_1 l0_1.length c0_1)) ∧ (Kd.R (Kd.int .i64) 2 w' w.heap.size (fun k_ => some k_ ≠ (s_.2 : Value).ownBlock) s_.1 y176) ∧ (Kd.R (Kd.int .i64) 2 w' w.heap.size (fun k_ => some k_ ≠ (s_.1 : Value).ownBlock) s_.2 y182) ∧ (w'.heap[gb174]? = some (.cells #[.slice A0_0 l0_0.length c0_0, .slice A0_1 l0_1.length c0_1] 26 (0, 0))) ∧ (w'.heap[gb175]? = some (.cells #[.slice none 0 0, .slice none 0 0] 26 (0, 0))) ∧ (Below w.heap.size w w')) ?_ ?_
        rotate_left
        ·intro hJ0_4
         refine join_ (σ := Value × Nat) 5 #[true, true, true, false, false, true, true, false, false, true, false] (fun s_ => [(19, s_.1), (6, .pointer (some ⟨s_.2, 0, none⟩))]) (fun s_ w' => (w'.cell? ⟨gb174, 0, none⟩ = some (.slice A0_0 l0_0.length c0_0) ∧ w'.cell? ⟨gb174, 1, none⟩ = some (.slice A0_1 l0_1.length c0_1)) ∧ (Kd.R (Kd.int .i64) 2 w' w.heap.size (fun _ => True) s_.1 y176) ∧ (w'.heap[gb174]? = some (.cells #[.slice A0_0 l0_0.length c0_0, .slice A0_1 l0_1.length c0_1] 26 (0, 0))) ∧ (w'.heap[gb175]? = some (.cells #[.slice none 0 0, .slice none 0 0] 26 (0, 0))) ∧ (w'.heap[s_.2]? = some (.cells #[.slice none 0 0, .slice none 0 0] 26 (0, 0))) ∧ (w.heap.size ≤ s_.2) ∧ (w.heap.size ≤ s_.2) ∧ (gb174 ≠ s_.2) ∧ (s_.2 ≠ gb174) ∧ (gb175 ≠ s_.2) ∧ (s_.2 ≠ gb175) ∧ (Below w.heap.size w w')) ?_ ?_
         rotate_left
         ·intro hJ0_9
          refine join_ (σ := Value × Nat) 5 #[false, true, true, false, true, true, true, false, false, true, false] (fun s_ => [(23, s_.1), (6, .pointer (some ⟨s_.2, 0, none⟩))]) (fun s_ w' => (w'.cell? ⟨gb174, 0, none⟩ = some (.slice A0_0 l0_0.length c0_0) ∧ w'.cell? ⟨gb174, 1, none⟩ = some (.slice A0_1 l0_1.length c0_1)) ∧ (Kd.R (Kd.int .i64) 2 w' w.heap.size (fun _ => True) s_.1 y182) ∧ (w'.heap[gb174]? = some (.cells #[.slice A0_0 l0_0.length c0_0, .slice A0_1 l0_1.length c0_1] 26 (0, 0))) ∧ (w'.heap[gb175]? = some (.cells #[.slice none 0 0, .slice none 0 0] 26 (0, 0))) ∧ (w'.heap[s_.2]? = some (.cells #[.slice none 0 0, .slice none 0 0] 26 (0, 0))) ∧ (w.heap.size ≤ s_.2) ∧ (w.heap.size ≤ s_.2) ∧ (gb174 ≠ s_.2) ∧ (s_.2 ≠ gb174) ∧ (gb175 ≠ s_.2) ∧ (s_.2 ≠ gb175) ∧ (Below w.heap.size w w')) ?_ ?_
          rotate_left
          ·intro hJ4_9
           refine join_ (σ := Value) 6 #[true, true, true, false, false, true, true, false, false, false, false] (fun s_ => [(19, s_)]) (fun s_ w' => (w'.cell? ⟨gb174, 0, none⟩ = some (.slice A0_0 l0_0.length c0_0) ∧ w'.cell? ⟨gb174, 1, none⟩ = some (.slice A0_1 l0_1.length c0_1)) ∧ (Kd.R (Kd.int .i64) 2 w' w.heap.size (fun _ => True) s_ y176) ∧ (w'.heap[gb174]? = some (.cells #[.slice A0_0 l0_0.length c0_0, .slice A0_1 l0_1.length c0_1] 26 (0, 0))) ∧ (w'.heap[gb175]? = some (.cells #[.slice none 0 0, .slice none 0 0] 26 (0, 0))) ∧ (Below w.heap.size w w')) ?_ ?_
           rotate_left
           ·intro hJ0
            refine join_ (σ := Value) 6 #[false, true, true, false, true, true, true, false, false, false, false] (fun s_ => [(23, s_)]) (fun s_ w' => (w'.cell? ⟨gb174, 0, none⟩ = some (.slice A0_0 l0_0.length c0_0) ∧ w'.cell? ⟨gb174, 1, none⟩ = some (.slice A0_1 l0_1.length c0_1)) ∧ (Kd.R (Kd.int .i64) 2 w' w.heap.size (fun _ => True) s_ y182) ∧ (w'.heap[gb174]? = some (.cells #[.slice A0_0 l0_0.length c0_0, .slice A0_1 l0_1.length c0_1] 26 (0, 0))) ∧ (w'.heap[gb175]? = some (.cells #[.slice none 0 0, .slice none 0 0] 26 (0, 0))) ∧ (Below w.heap.size w w')) ?_ ?_
            rotate_left
            ·intro hJ4
             refine join_ (σ := Nat) 6 #[false, true, true, false, false, true, true, false, false, true, false] (fun s_ => [(6, .pointer (some ⟨s_, 0, none⟩))]) (fun s_ w' => (w'.cell? ⟨gb174, 0, none⟩ = some (.slice A0_0 l0_0.length c0_0) ∧ w'.cell? ⟨gb174, 1, none⟩ = some (.slice A0_1 l0_1.length c0_1)) ∧ (w'.heap[gb174]? = some (.cells #[.slice A0_0 l0_0.length c0_0, .slice A0_1 l0_1.length c0_1] 26 (0, 0))) ∧ (w'.heap[gb175]? = some (.cells #[.slice none 0 0, .slice none 0 0] 26 (0, 0))) ∧ (w'.heap[s_]? = some (.cells #[.slice none 0 0, .slice none 0 0] 26 (0, 0))) ∧ (w.heap.size ≤ s_) ∧ (w.heap.size ≤ s_) ∧ (gb174 ≠ s_) ∧ (s_ ≠ gb174) ∧ (gb175 ≠ s_) ∧ (s_ ≠ gb175) ∧ (Below w.heap.size w w')) ?_ ?_
             rotate_left
             ·intro hJ9
              refine three_ (i := 0) (j := 4) (k := 9) (Ni := some 19) (Nj := some 23) (Nk := some 6) #[true, true, true, false, false, true, true, false, false, false, false] #[false, true, true, false, true, true, true, false, false, false, false] #[false, true, true, false, false, true, true, false, false, true, false] rfl rfl rfl rfl rfl rfl (three_of HT_.out (by kernel_rfl)) (by decide) (by decide) (by decide) (fun K hK => ?_) (fun K hK => ?_) (fun K hK => ?_)
              ·skip
               refine Kd.R_lit_step (Kd.int .i64) _ 2 ?hg (N := 19) ?hd (xs := ([] : List Int)) (inner := []) (ok := fun _ => True) (okp := fun _ => True) ?hr ?hp (fun _ hk => hk) trivial (Below.refl _ _) (Nat.le_refl _) (by simp) ?_; (case hd => rfl); (case hg => rfl); (case hr => first | (go_simp; done) | (go_simp; rfl)); (case hp => exact (Reps.none _ _))
               intro v177 w10 ho11 hb hg_ hnew_
               clear hg_ hnew_
               (first | rw [← Ny176.out] at ho11 | (simp only [Int.reduceToNat] at ho11; rw [← Ny176.out] at ho11))
               have HO178 := rL_ ho11 HB; replace BK174 := bB_ BK174 hb; replace BK175 := bB_ BK175 hb; replace HB := bS_ HB hb; clear hb ho11
               refine hK.out _ _ ⟨(blk_cell BK174.out 0).trans rfl, (blk_cell BK174.out 1).trans rfl⟩ (fun hHeld => ?_)
               clear hK K
               refine nS_ (some 19) ?_
               exact norm_ (by simp only [putAll, Act.put, List.setIfInBounds_toArray, List.set_cons_zero, List.set_cons_succ] <;> rfl) (hJ0 (v177) _ ⟨hHeld, (rT_ HO178), (bT_ BK174), (bT_ BK175), sABelo_4⟩)
              ·skip
               refine Kd.R_lit_step (Kd.int .i64) _ 2 ?hg (N := 23) ?hd (xs := ([] : List Int)) (inner := []) (ok := fun _ => True) (okp := fun _ => True) ?hr ?hp (fun _ hk => hk) trivial (Below.refl _ _) (Nat.le_refl _) (by simp) ?_; (case hd => rfl); (case hg => rfl); (case hr => first | (go_simp; done) | (go_simp; rfl)); (case hp => exact (Reps.none _ _))
               intro v183 w10 ho11 hb hg_ hnew_
               clear hg_ hnew_
               (first | rw [← Ny182.out] at ho11 | (simp only [Int.reduceToNat] at ho11; rw [← Ny182.out] at ho11))
               have HO184 := rL_ ho11 HB; replace BK174 := bB_ BK174 hb; replace BK175 := bB_ BK175 hb; replace HB := bS_ HB hb; clear hb ho11
               refine hK.out _ _ ⟨(blk_cell BK174.out 0).trans rfl, (blk_cell BK174.out 1).trans rfl⟩ (fun hHeld => ?_)
               clear hK K
               refine nS_ (some 23) ?_
               exact norm_ (by simp only [putAll, Act.put, List.setIfInBounds_toArray, List.set_cons_zero, List.set_cons_succ] <;> rfl) (hJ4 (v183) _ ⟨hHeld, (rT_ HO184), (bT_ BK174), (bT_ BK175), sABelo_4⟩)
              ·skip
               refine box_step ?hg (N := 6) ?hd (cs := #[.slice none 0 0, .slice none 0 0]) (t := 26) ?hr ?_; (case hd => rfl); (case hg => rfl); (case hr => first | (go_simp; done) | (go_simp; rfl))
               intro gb188 hg w10 hbox hb
               have BK188 := Aside0.mk (hbox)
               have GW188 := gE_ HB hg; have GE188 := gE_ HB hg; replace HB := bS_ HB hb; have NB174_188 := nL_ BK174 hg; have NB188_174 := nG_ BK174 hg; replace BK174 := bB_ BK174 hb; have NB175_188 := nL_ BK175 hg; have NB188_175 := nG_ BK175 hg; replace BK175 := bB_ BK175 hb; clear hb hbox hg
               refine hK.out _ _ ⟨(blk_cell BK174.out 0).trans rfl, (blk_cell BK174.out 1).trans rfl⟩ (fun hHeld => ?_)
               clear hK K
               refine nS_ (some 6) ?_
               exact norm_ (by simp only [putAll, Act.put, List.setIfInBounds_toArray, List.set_cons_zero, List.set_cons_succ] <;> rfl) (hJ9 (gb188) _ ⟨hHeld, (bT_ BK174), (bT_ BK175), (bT_ BK188), GW188.out, GE188.out, NB174_188.out, NB188_174.out, NB175_188.out, NB188_175.out, sABelo_4⟩)
             ·skip
              rintro gb188 w11 ⟨hS_, h0_, h1_, h2_, h3_, h4_, h5_, h6_, h7_, h8_, h9_⟩
              try dsimp only at h0_ h1_ h2_ h3_ h4_ h5_ h6_ h7_ h8_ h9_
              replace BK174 := Aside0.mk h0_; replace BK175 := Aside0.mk h1_; have BK188 := Aside0.mk h2_; have GW188 := Aside0.mk h3_; have GE188 := Aside0.mk h4_; have NB174_188 := Aside0.mk h5_; have NB188_174 := Aside0.mk h6_; have NB175_188 := Aside0.mk h7_; have NB188_175 := Aside0.mk h8_; replace HB := Aside0.mk h9_; clear h0_ h1_ h2_ h3_ h4_ h5_ h6_ h7_ h8_ h9_
              have hHeld : w11.cell? ⟨gb174, 0, none⟩ = some (.slice A0_0 l0_0.length c0_0) ∧ w11.cell? ⟨gb174, 1, none⟩ = some (.slice A0_1 l0_1.length c0_1) := hS_
              refine norm_ (a' := ?_) ?_ ?_
              rotate_left
              ·simp only [putAll, Act.put, List.setIfInBounds_toArray, List.set_cons_zero, List.set_cons_succ]
               rfl
              refine two_ (i := 0) (j := 4) (Ni := some 19) (Nj := some 23) #[true, true, true, false, false, true, true, false, false, true, false] #[false, true, true, false, true, true, true, false, false, true, false] rfl rfl rfl rfl (two_of HT_.out (by kernel_rfl)) (by decide) (by decide) (fun K hK => ?_) (fun K hK => ?_)
              ·skip
               refine Kd.R_lit_step (Kd.int .i64) _ 2 ?hg (N := 19) ?hd (xs := ([] : List Int)) (inner := []) (ok := fun _ => True) (okp := fun _ => True) ?hr ?hp (fun _ hk => hk) trivial (Below.refl _ _) (Nat.le_refl _) (by simp) ?_; (case hd => rfl); (case hg => rfl); (case hr => first | (go_simp; done) | (go_simp; rfl)); (case hp => exact (Reps.none _ _))
               intro v177 w12 ho13 hb hg_ hnew_
               clear hg_ hnew_
               (first | rw [← Ny176.out] at ho13 | (simp only [Int.reduceToNat] at ho13; rw [← Ny176.out] at ho13))
               have HO178 := rL_ ho13 HB; replace BK174 := bB_ BK174 hb; replace BK175 := bB_ BK175 hb; replace BK188 := bB_ BK188 hb; replace HB := bS_ HB hb; clear hb ho13
               refine hK.out _ _ ⟨(blk_cell BK174.out 0).trans rfl, (blk_cell BK174.out 1).trans rfl⟩ (fun hHeld => ?_)
               clear hK K
               refine nS_ (some 19) ?_
               exact norm_ (by simp only [putAll, Act.put, List.setIfInBounds_toArray, List.set_cons_zero, List.set_cons_succ] <;> rfl) (hJ0_9 (v177, gb188) _ ⟨hHeld, (rT_ HO178), (bT_ BK174), (bT_ BK175), (bT_ BK188), GW188.out, GE188.out, NB174_188.out, NB188_174.out, NB175_188.out, NB188_175.out, sABelo_4⟩)
              ·skip
               refine Kd.R_lit_step (Kd.int .i64) _ 2 ?hg (N := 23) ?hd (xs := ([] : List Int)) (inner := []) (ok := fun _ => True) (okp := fun _ => True) ?hr ?hp (fun _ hk => hk) trivial (Below.refl _ _) (Nat.le_refl _) (by simp) ?_; (case hd => rfl); (case hg => rfl); (case hr => first | (go_simp; done) | (go_simp; rfl)); (case hp => exact (Reps.none _ _))
               intro v183 w12 ho13 hb hg_ hnew_
               clear hg_ hnew_
               (first | rw [← Ny182.out] at ho13 | (simp only [Int.reduceToNat] at ho13; rw [← Ny182.out] at ho13))
               have HO184 := rL_ ho13 HB; replace BK174 := bB_ BK174 hb; replace BK175 := bB_ BK175 hb; replace BK188 := bB_ BK188 hb; replace HB := bS_ HB hb; clear hb ho13
               refine hK.out _ _ ⟨(blk_cell BK174.out 0).trans rfl, (blk_cell BK174.out 1).trans rfl⟩ (fun hHeld => ?_)
               clear hK K
               refine nS_ (some 23) ?_
               exact norm_ (by simp only [putAll, Act.put, List.setIfInBounds_toArray, List.set_cons_zero, List.set_cons_succ] <;> rfl) (hJ4_9 (v183, gb188) _ ⟨hHeld, (rT_ HO184), (bT_ BK174), (bT_ BK175), (bT_ BK188), GW188.out, GE188.out, NB174_188.out, NB188_174.out, NB175_188.out, NB188_175.out, sABelo_4⟩)
            ·skip
             rintro v183 w12 ⟨hS_, h0_, h1_, h2_, h3_⟩
             try dsimp only at h0_ h1_ h2_ h3_
             have HO184 := Aside0.mk h0_; replace BK174 := Aside0.mk h1_; replace BK175 := Aside0.mk h2_; replace HB := Aside0.mk h3_; clear h0_ h1_ h2_ h3_
             have hHeld : w12.cell? ⟨gb174, 0, none⟩ = some (.slice A0_0 l0_0.length c0_0) ∧ w12.cell? ⟨gb174, 1, none⟩ = some (.slice A0_1 l0_1.length c0_1) := hS_
             refine norm_ (a' := ?_) ?_ ?_
             rotate_left
             ·simp only [putAll, Act.put, List.setIfInBounds_toArray, List.set_cons_zero, List.set_cons_succ]
              rfl
             refine two_ (i := 0) (j := 9) (Ni := some 19) (Nj := some 6) #[true, true, true, false, true, true, true, false, false, false, false] #[false, true, true, false, true, true, true, false, false, true, false] rfl rfl rfl rfl (two_of HT_.out (by kernel_rfl)) (by decide) (by decide) (fun K hK => ?_) (fun K hK => ?_)
             ·skip
              refine Kd.R_lit_step (Kd.int .i64) _ 2 ?hg (N := 19) ?hd (xs := ([] : List Int)) (inner := []) (ok := fun _ => True) (okp := fun _ => True) ?hr ?hp (fun _ hk => hk) trivial (Below.refl _ _) (Nat.le_refl _) (by simp) ?_; (case hd => rfl); (case hg => rfl); (case hr => first | (go_simp; done) | (go_simp; rfl)); (case hp => exact (Reps.none _ _))
              intro v177 w13 ho14 hb hg_ hnew_
              clear hg_ hnew_
              (first | rw [← Ny176.out] at ho14 | (simp only [Int.reduceToNat] at ho14; rw [← Ny176.out] at ho14))
              have HO178 := rL_ (rN_ ho14 HO184) HB
              replace HO184 := rE_ HO184 ho14 hb; replace BK174 := bB_ BK174 hb; replace BK175 := bB_ BK175 hb; replace HB := bS_ HB hb; clear hb ho14
              refine hK.out _ _ ⟨(blk_cell BK174.out 0).trans rfl, (blk_cell BK174.out 1).trans rfl⟩ (fun hHeld => ?_)
              clear hK K
              refine nS_ (some 19) ?_
              exact norm_ (by simp only [putAll, Act.put, List.setIfInBounds_toArray, List.set_cons_zero, List.set_cons_succ] <;> rfl) (hJ0_4 (v177, v183) _ ⟨hHeld, (rM_ HO178), (rM_ HO184), (bT_ BK174), (bT_ BK175), sABelo_4⟩)
             ·skip
              refine box_step ?hg (N := 6) ?hd (cs := #[.slice none 0 0, .slice none 0 0]) (t := 26) ?hr ?_; (case hd => rfl); (case hg => rfl); (case hr => first | (go_simp; done) | (go_simp; rfl))
              intro gb188 hg w13 hbox hb
              replace HO184 := rB_ HO184 hb
              have BK188 := Aside0.mk (hbox)
              have GW188 := gE_ HB hg; have GE188 := gE_ HB hg; replace HB := bS_ HB hb; have NB174_188 := nL_ BK174 hg; have NB188_174 := nG_ BK174 hg; replace BK174 := bB_ BK174 hb; have NB175_188 := nL_ BK175 hg; have NB188_175 := nG_ BK175 hg; replace BK175 := bB_ BK175 hb; clear hb hbox hg
              refine hK.out _ _ ⟨(blk_cell BK174.out 0).trans rfl, (blk_cell BK174.out 1).trans rfl⟩ (fun hHeld => ?_)
              clear hK K
              refine nS_ (some 6) ?_
              exact norm_ (by simp only [putAll, Act.put, List.setIfInBounds_toArray, List.set_cons_zero, List.set_cons_succ] <;> rfl) (hJ4_9 (v183, gb188) _ ⟨hHeld, (rT_ HO184), (bT_ BK174), (bT_ BK175), (bT_ BK188), GW188.out, GE188.out, NB174_188.out, NB188_174.out, NB175_188.out, NB188_175.out, sABelo_4⟩)
           ·skip
            rintro v177 w12 ⟨hS_, h0_, h1_, h2_, h3_⟩
            try dsimp only at h0_ h1_ h2_ h3_
            have HO178 := Aside0.mk h0_; replace BK174 := Aside0.mk h1_; replace BK175 := Aside0.mk h2_; replace HB := Aside0.mk h3_; clear h0_ h1_ h2_ h3_
            have hHeld : w12.cell? ⟨gb174, 0, none⟩ = some (.slice A0_0 l0_0.length c0_0) ∧ w12.cell? ⟨gb174, 1, none⟩ = some (.slice A0_1 l0_1.length c0_1) := hS_
            refine norm_ (a' := ?_) ?_ ?_
            rotate_left
            ·simp only [putAll, Act.put, List.setIfInBounds_toArray, List.set_cons_zero, List.set_cons_succ]
             rfl
            refine three_ (i := 3) (j := 4) (k := 9) (Ni := some 22) (Nj := some 23) (Nk := some 6) #[true, true, true, true, false, true, true, false, false, false, false] #[true, true, true, false, true, true, true, false, false, false, false] #[true, true, true, false, false, true, true, false, false, true, false] rfl rfl rfl rfl rfl rfl (three_of HT_.out (by kernel_rfl)) (by decide) (by decide) (by decide) (fun K hK => ?_) (fun K hK => ?_) (fun K hK => ?_)
            ·skip
             refine Kd.R_append_rows_step (Kd.int .i64) (w0 := w) w.heap.size (by rfl) (.tmp 19) (.tmp 21) 22 2 (.int .i64 0) 8 rfl Try.underlying22 info2 rfl (by decide) (by omega) v177 y176 l0_0 _ _ _ (fun _ => True) (fun _ => False) rfl rfl ?aO ?aR (fun _ _ h => h) (fun _ h => h.elim) ?aF ?aB ?aS ?aL ?_
             (case aR => repeat (first | exact (Kd.C_below HR0_0.out HB.out) | (with_reducible refine Kd.C_alloc ?_ _) | (with_reducible refine Kd.C_drewN ?_ _) | (with_reducible refine Kd.C_drew ?_)))
             (case aB => exact sABelo_4)
             (case aF => exact (fun _ _ => trivial))
             (case aO => exact (rT_ HO178))
             (case aS => exact (below_size sABelo_4))
             (case aL => have := LMc3.out; omega)
             intro v180 w13 ho hb hg hat
             rw [← Ny179.out] at ho
             replace BK174 := Aside0.mk (blk_grown (g := gb174) (o := .cells #[.slice A0_0 l0_0.length c0_0, .slice A0_1 l0_1.length c0_1] 26 (0, 0)) (bT_ BK174) hg (Kd.R_ne HO178.out BK174.out (by decide)))
             replace BK175 := Aside0.mk (blk_grown (g := gb175) (o := .cells #[.slice none 0 0, .slice none 0 0] 26 (0, 0)) (bT_ BK175) hg (Kd.R_ne HO178.out BK175.out (by decide)))
             replace HB := Aside0.mk (hb)
             have HO181 := Aside0.mk (ho)
             clear HO178 ho hb hg hat
             refine hK.out _ _ ⟨(blk_cell BK174.out 0).trans rfl, (blk_cell BK174.out 1).trans rfl⟩ (fun hHeld => ?_)
             clear hK K
             refine nS_ (some 22) ?_
             exact norm_ (by simp only [putAll, Act.put, List.setIfInBounds_toArray, List.set_cons_zero, List.set_cons_succ] <;> rfl) (hJ0_3 (v177, v180) _ ⟨hHeld, (rT_ HO181), (bT_ BK174), (bT_ BK175), sABelo_4⟩)
            ·skip
             refine Kd.R_lit_step (Kd.int .i64) _ 2 ?hg (N := 23) ?hd (xs := ([] : List Int)) (inner := []) (ok := fun _ => True) (okp := fun _ => True) ?hr ?hp (fun _ hk => hk) trivial (Below.refl _ _) (Nat.le_refl _) (by simp) ?_; (case hd => rfl); (case hg => rfl); (case hr => first | (go_simp; done) | (go_simp; rfl)); (case hp => exact (Reps.none _ _))
             intro v183 w13 ho14 hb hg_ hnew_
             clear hg_ hnew_
             (first | rw [← Ny182.out] at ho14 | (simp only [Int.reduceToNat] at ho14; rw [← Ny182.out] at ho14))
             have HO184 := rL_ (rN_ ho14 HO178) HB
             replace HO178 := rE_ HO178 ho14 hb; replace BK174 := bB_ BK174 hb; replace BK175 := bB_ BK175 hb; replace HB := bS_ HB hb; clear hb ho14
             refine hK.out _ _ ⟨(blk_cell BK174.out 0).trans rfl, (blk_cell BK174.out 1).trans rfl⟩ (fun hHeld => ?_)
             clear hK K
             refine nS_ (some 23) ?_
             exact norm_ (by simp only [putAll, Act.put, List.setIfInBounds_toArray, List.set_cons_zero, List.set_cons_succ] <;> rfl) (hJ0_4 (v177, v183) _ ⟨hHeld, (rM_ HO178), (rM_ HO184), (bT_ BK174), (bT_ BK175), sABelo_4⟩)
            ·skip
             refine box_step ?hg (N := 6) ?hd (cs := #[.slice none 0 0, .slice none 0 0]) (t := 26) ?hr ?_; (case hd => rfl); (case hg => rfl); (case hr => first | (go_simp; done) | (go_simp; rfl))
             intro gb188 hg w13 hbox hb
             replace HO178 := rB_ HO178 hb
             have BK188 := Aside0.mk (hbox)
             have GW188 := gE_ HB hg; have GE188 := gE_ HB hg; replace HB := bS_ HB hb; have NB174_188 := nL_ BK174 hg; have NB188_174 := nG_ BK174 hg; replace BK174 := bB_ BK174 hb; have NB175_188 := nL_ BK175 hg; have NB188_175 := nG_ BK175 hg; replace BK175 := bB_ BK175 hb; clear hb hbox hg
             refine hK.out _ _ ⟨(blk_cell BK174.out 0).trans rfl, (blk_cell BK174.out 1).trans rfl⟩ (fun hHeld => ?_)
             clear hK K
             refine nS_ (some 6) ?_
             exact norm_ (by simp only [putAll, Act.put, List.setIfInBounds_toArray, List.set_cons_zero, List.set_cons_succ] <;> rfl) (hJ0_9 (v177, gb188) _ ⟨hHeld, (rT_ HO178), (bT_ BK174), (bT_ BK175), (bT_ BK188), GW188.out, GE188.out, NB174_188.out, NB188_174.out, NB175_188.out, NB188_175.out, sABelo_4⟩)
          ·skip
           rintro ⟨v183, gb188⟩ w13 ⟨hS_, h0_, h1_, h2_, h3_, h4_, h5_, h6_, h7_, h8_, h9_, h10_⟩
           try dsimp only at h0_ h1_ h2_ h3_ h4_ h5_ h6_ h7_ h8_ h9_ h10_
           have HO184 := Aside0.mk h0_; replace BK174 := Aside0.mk h1_; replace BK175 := Aside0.mk h2_; have BK188 := Aside0.mk h3_; have GW188 := Aside0.mk h4_; have GE188 := Aside0.mk h5_; have NB174_188 := Aside0.mk h6_; have NB188_174 := Aside0.mk h7_; have NB175_188 := Aside0.mk h8_; have NB188_175 := Aside0.mk h9_; replace HB := Aside0.mk h10_; clear h0_ h1_ h2_ h3_ h4_ h5_ h6_ h7_ h8_ h9_ h10_
           have hHeld : w13.cell? ⟨gb174, 0, none⟩ = some (.slice A0_0 l0_0.length c0_0) ∧ w13.cell? ⟨gb174, 1, none⟩ = some (.slice A0_1 l0_1.length c0_1) := hS_
           refine norm_ (a' := ?_) ?_ ?_
           rotate_left
           ·simp only [putAll, Act.put, List.setIfInBounds_toArray, List.set_cons_zero, List.set_cons_succ]
            rfl
           refine one_ (i := 0) (N := some 19) #[true, true, true, false, true, true, true, false, false, true, false] rfl rfl (one_of HT_.out (by kernel_rfl)) (by decide) (fun K hK => ?_)
           refine Kd.R_lit_step (Kd.int .i64) _ 2 ?hg (N := 19) ?hd (xs := ([] : List Int)) (inner := []) (ok := fun _ => True) (okp := fun _ => True) ?hr ?hp (fun _ hk => hk) trivial (Below.refl _ _) (Nat.le_refl _) (by simp) ?_; (case hd => rfl); (case hg => rfl); (case hr => first | (go_simp; done) | (go_simp; rfl)); (case hp => exact (Reps.none _ _))
           intro v177 w14 ho15 hb hg_ hnew_
           clear hg_ hnew_
           (first | rw [← Ny176.out] at ho15 | (simp only [Int.reduceToNat] at ho15; rw [← Ny176.out] at ho15))
           have HO178 := rL_ (rN_ ho15 HO184) HB
           replace HO184 := rE_ HO184 ho15 hb; replace BK174 := bB_ BK174 hb; replace BK175 := bB_ BK175 hb; replace BK188 := bB_ BK188 hb; replace HB := bS_ HB hb; clear hb ho15
           refine hK.out _ _ ⟨(blk_cell BK174.out 0).trans rfl, (blk_cell BK174.out 1).trans rfl⟩ (fun hHeld => ?_)
           clear hK K
           refine nS_ (some 19) ?_
           exact norm_ (by simp only [putAll, Act.put, List.setIfInBounds_toArray, List.set_cons_zero, List.set_cons_succ] <;> rfl) (hJ0_4_9 (v177, v183, gb188) _ ⟨hHeld, (rM_ HO178), (rM_ HO184), (bT_ BK174), (bT_ BK175), (bT_ BK188), GW188.out, GE188.out, NB174_188.out, NB188_174.out, NB175_188.out, NB188_175.out, sABelo_4⟩)
         ·skip
          rintro ⟨v177, gb188⟩ w13 ⟨hS_, h0_, h1_, h2_, h3_, h4_, h5_, h6_, h7_, h8_, h9_, h10_⟩
          try dsimp only at h0_ h1_ h2_ h3_ h4_ h5_ h6_ h7_ h8_ h9_ h10_
          have HO178 := Aside0.mk h0_; replace BK174 := Aside0.mk h1_; replace BK175 := Aside0.mk h2_; have BK188 := Aside0.mk h3_; have GW188 := Aside0.mk h4_; have GE188 := Aside0.mk h5_; have NB174_188 := Aside0.mk h6_; have NB188_174 := Aside0.mk h7_; have NB175_188 := Aside0.mk h8_; have NB188_175 := Aside0.mk h9_; replace HB := Aside0.mk h10_; clear h0_ h1_ h2_ h3_ h4_ h5_ h6_ h7_ h8_ h9_ h10_
          have hHeld : w13.cell? ⟨gb174, 0, none⟩ = some (.slice A0_0 l0_0.length c0_0) ∧ w13.cell? ⟨gb174, 1, none⟩ = some (.slice A0_1 l0_1.length c0_1) := hS_
          refine norm_ (a' := ?_) ?_ ?_
          rotate_left
          ·simp only [putAll, Act.put, List.setIfInBounds_toArray, List.set_cons_zero, List.set_cons_succ]
           rfl
          refine two_ (i := 3) (j := 4) (Ni := some 22) (Nj := some 23) #[true, true, true, true, false, true, true, false, false, true, false] #[true, true, true, false, true, true, true, false, false, true, false] rfl rfl rfl rfl (two_of HT_.out (by kernel_rfl)) (by decide) (by decide) (fun K hK => ?_) (fun K hK => ?_)
          ·skip
           refine Kd.R_append_rows_step (Kd.int .i64) (w0 := w) w.heap.size (by rfl) (.tmp 19) (.tmp 21) 22 2 (.int .i64 0) 8 rfl Try.underlying22 info2 rfl (by decide) (by omega) v177 y176 l0_0 _ _ _ (fun _ => True) (fun _ => False) rfl rfl ?aO ?aR (fun _ _ h => h) (fun _ h => h.elim) ?aF ?aB ?aS ?aL ?_
           (case aR => repeat (first | exact (Kd.C_below HR0_0.out HB.out) | (with_reducible refine Kd.C_alloc ?_ _) | (with_reducible refine Kd.C_drewN ?_ _) | (with_reducible refine Kd.C_drew ?_)))
           (case aB => exact sABelo_4)
           (case aF => exact (fun _ _ => trivial))
           (case aO => exact (rT_ HO178))
           (case aS => exact (below_size sABelo_4))
           (case aL => have := LMc3.out; omega)
           intro v180 w14 ho hb hg hat
           rw [← Ny179.out] at ho
           replace BK174 := Aside0.mk (blk_grown (g := gb174) (o := .cells #[.slice A0_0 l0_0.length c0_0, .slice A0_1 l0_1.length c0_1] 26 (0, 0)) (bT_ BK174) hg (Kd.R_ne HO178.out BK174.out (by decide)))
           replace BK175 := Aside0.mk (blk_grown (g := gb175) (o := .cells #[.slice none 0 0, .slice none 0 0] 26 (0, 0)) (bT_ BK175) hg (Kd.R_ne HO178.out BK175.out (by decide)))
           replace BK188 := Aside0.mk (blk_grown (g := gb188) (o := .cells #[.slice none 0 0, .slice none 0 0] 26 (0, 0)) (bT_ BK188) hg (Kd.R_ne HO178.out BK188.out (by decide)))
           replace HB := Aside0.mk (hb)
           have HO181 := Aside0.mk (ho)
           clear HO178 ho hb hg hat
           refine hK.out _ _ ⟨(blk_cell BK174.out 0).trans rfl, (blk_cell BK174.out 1).trans rfl⟩ (fun hHeld => ?_)
           clear hK K
           refine nS_ (some 22) ?_
           exact norm_ (by simp only [putAll, Act.put, List.setIfInBounds_toArray, List.set_cons_zero, List.set_cons_succ] <;> rfl) (hJ0_3_9 (v177, v180, gb188) _ ⟨hHeld, (rT_ HO181), (bT_ BK174), (bT_ BK175), (bT_ BK188), GW188.out, GE188.out, NB174_188.out, NB188_174.out, NB175_188.out, NB188_175.out, sABelo_4⟩)
          ·skip
           refine Kd.R_lit_step (Kd.int .i64) _ 2 ?hg (N := 23) ?hd (xs := ([] : List Int)) (inner := []) (ok := fun _ => True) (okp := fun _ => True) ?hr ?hp (fun _ hk => hk) trivial (Below.refl _ _) (Nat.le_refl _) (by simp) ?_; (case hd => rfl); (case hg => rfl); (case hr => first | (go_simp; done) | (go_simp; rfl)); (case hp => exact (Reps.none _ _))
           intro v183 w14 ho15 hb hg_ hnew_
           clear hg_ hnew_
           (first | rw [← Ny182.out] at ho15 | (simp only [Int.reduceToNat] at ho15; rw [← Ny182.out] at ho15))
           have HO184 := rL_ (rN_ ho15 HO178) HB
           replace HO178 := rE_ HO178 ho15 hb; replace BK174 := bB_ BK174 hb; replace BK175 := bB_ BK175 hb; replace BK188 := bB_ BK188 hb; replace HB := bS_ HB hb; clear hb ho15
           refine hK.out _ _ ⟨(blk_cell BK174.out 0).trans rfl, (blk_cell BK174.out 1).trans rfl⟩ (fun hHeld => ?_)
           clear hK K
           refine nS_ (some 23) ?_
           exact norm_ (by simp only [putAll, Act.put, List.setIfInBounds_toArray, List.set_cons_zero, List.set_cons_succ] <;> rfl) (hJ0_4_9 (v177, v183, gb188) _ ⟨hHeld, (rM_ HO178), (rM_ HO184), (bT_ BK174), (bT_ BK175), (bT_ BK188), GW188.out, GE188.out, NB174_188.out, NB188_174.out, NB175_188.out, NB188_175.out, sABelo_4⟩)
        ·skip
         rintro ⟨v177, v183⟩ w14 ⟨hS_, h0_, h1_, h2_, h3_, h4_⟩
         try dsimp only at h0_ h1_ h2_ h3_ h4_
         have HO178 := Aside0.mk h0_; have HO184 := Aside0.mk h1_; replace BK174 := Aside0.mk h2_; replace BK175 := Aside0.mk h3_; replace HB := Aside0.mk h4_; clear h0_ h1_ h2_ h3_ h4_
         have hHeld : w14.cell? ⟨gb174, 0, none⟩ = some (.slice A0_0 l0_0.length c0_0) ∧ w14.cell? ⟨gb174, 1, none⟩ = some (.slice A0_1 l0_1.length c0_1) := hS_
         refine norm_ (a' := ?_) ?_ ?_
         rotate_left
         ·simp only [putAll, Act.put, List.setIfInBounds_toArray, List.set_cons_zero, List.set_cons_succ]
          rfl
         refine two_ (i := 3) (j := 9) (Ni := some 22) (Nj := some 6) #[true, true, true, true, true, true, true, false, false, false, false] #[true, true, true, false, true, true, true, false, false, true, false] rfl rfl rfl rfl (two_of HT_.out (by kernel_rfl)) (by decide) (by decide) (fun K hK => ?_) (fun K hK => ?_)
         ·skip
          refine Kd.R_append_rows_step (Kd.int .i64) (w0 := w) w.heap.size (by rfl) (.tmp 19) (.tmp 21) 22 2 (.int .i64 0) 8 rfl Try.underlying22 info2 rfl (by decide) (by omega) v177 y176 l0_0 _ _ _ (fun k_ => some k_ ≠ (v183 : Value).ownBlock) (fun _ => False) rfl rfl ?aO ?aR (fun _ _ h => h) (fun _ h => h.elim) ?aF ?aB ?aS ?aL ?_
          (case aR => repeat (first | exact (Kd.C_below HR0_0.out HB.out) | (with_reducible refine Kd.C_alloc ?_ _) | (with_reducible refine Kd.C_drewN ?_ _) | (with_reducible refine Kd.C_drew ?_)))
          (case aB => exact sABelo_4)
          (case aF => exact (fun k_ hk => Kd.fresh' (rLt_ HO184) k_ hk))
          (case aO => exact (rT_ HO178))
          (case aS => exact (below_size sABelo_4))
          (case aL => have := LMc3.out; omega)
          intro v180 w15 ho hb hg hat
          rw [← Ny179.out] at ho
          replace BK174 := Aside0.mk (blk_grown (g := gb174) (o := .cells #[.slice A0_0 l0_0.length c0_0, .slice A0_1 l0_1.length c0_1] 26 (0, 0)) (bT_ BK174) hg (Kd.R_ne HO178.out BK174.out (by decide)))
          replace BK175 := Aside0.mk (blk_grown (g := gb175) (o := .cells #[.slice none 0 0, .slice none 0 0] 26 (0, 0)) (bT_ BK175) hg (Kd.R_ne HO178.out BK175.out (by decide)))
          replace HO184 := Aside0.mk (Kd.R_after (ok := (fun _ => True)) (rM_ HO184 (fun _ hk => ⟨trivial, hk⟩)) hg hat)
          replace HB := Aside0.mk (hb)
          have HO181 := Aside0.mk (ho)
          clear HO178 ho hb hg hat
          refine hK.out _ _ ⟨(blk_cell BK174.out 0).trans rfl, (blk_cell BK174.out 1).trans rfl⟩ (fun hHeld => ?_)
          clear hK K
          refine nS_ (some 22) ?_
          exact norm_ (by simp only [putAll, Act.put, List.setIfInBounds_toArray, List.set_cons_zero, List.set_cons_succ] <;> rfl) (hJ0_3_4 (v177, v180, v183) _ ⟨hHeld, (rT_ HO181), (rM_ HO184), (bT_ BK174), (bT_ BK175), sABelo_4⟩)
         ·skip
          refine box_step ?hg (N := 6) ?hd (cs := #[.slice none 0 0, .slice none 0 0]) (t := 26) ?hr ?_; (case hd => rfl); (case hg => rfl); (case hr => first | (go_simp; done) | (go_simp; rfl))
          intro gb188 hg w15 hbox hb
          replace HO178 := rB_ HO178 hb; replace HO184 := rB_ HO184 hb
          have BK188 := Aside0.mk (hbox)
          have GW188 := gE_ HB hg; have GE188 := gE_ HB hg; replace HB := bS_ HB hb; have NB174_188 := nL_ BK174 hg; have NB188_174 := nG_ BK174 hg; replace BK174 := bB_ BK174 hb; have NB175_188 := nL_ BK175 hg; have NB188_175 := nG_ BK175 hg; replace BK175 := bB_ BK175 hb; clear hb hbox hg
          refine hK.out _ _ ⟨(blk_cell BK174.out 0).trans rfl, (blk_cell BK174.out 1).trans rfl⟩ (fun hHeld => ?_)
          clear hK K
          refine nS_ (some 6) ?_
          exact norm_ (by simp only [putAll, Act.put, List.setIfInBounds_toArray, List.set_cons_zero, List.set_cons_succ] <;> rfl) (hJ0_4_9 (v177, v183, gb188) _ ⟨hHeld, (rT_ HO178), (rT_ HO184), (bT_ BK174), (bT_ BK175), (bT_ BK188), GW188.out, GE188.out, NB174_188.out, NB188_174.out, NB175_188.out, NB188_175.out, sABelo_4⟩)
       ·skip
        rintro ⟨v177, v180⟩ w13 ⟨hS_, h0_, h1_, h2_, h3_⟩
        try dsimp only at h0_ h1_ h2_ h3_
        have HO181 := Aside0.mk h0_; replace BK174 := Aside0.mk h1_; replace BK175 := Aside0.mk h2_; replace HB := Aside0.mk h3_; clear h0_ h1_ h2_ h3_
        have hHeld : w13.cell? ⟨gb174, 0, none⟩ = some (.slice A0_0 l0_0.length c0_0) ∧ w13.cell? ⟨gb174, 1, none⟩ = some (.slice A0_1 l0_1.length c0_1) := hS_
        refine norm_ (a' := ?_) ?_ ?_
        rotate_left
        ·simp only [putAll, Act.put, List.setIfInBounds_toArray, List.set_cons_zero, List.set_cons_succ]
         rfl
        refine two_ (i := 4) (j := 9) (Ni := some 23) (Nj := some 6) #[true, true, true, true, true, true, true, false, false, false, false] #[true, true, true, true, false, true, true, false, false, true, false] rfl rfl rfl rfl (two_of HT_.out (by kernel_rfl)) (by decide) (by decide) (fun K hK => ?_) (fun K hK => ?_)
        ·skip
         refine Kd.R_lit_step (Kd.int .i64) _ 2 ?hg (N := 23) ?hd (xs := ([] : List Int)) (inner := []) (ok := fun _ => True) (okp := fun _ => True) ?hr ?hp (fun _ hk => hk) trivial (Below.refl _ _) (Nat.le_refl _) (by simp) ?_; (case hd => rfl); (case hg => rfl); (case hr => first | (go_simp; done) | (go_simp; rfl)); (case hp => exact (Reps.none _ _))
         intro v183 w14 ho15 hb hg_ hnew_
         clear hg_ hnew_
         (first | rw [← Ny182.out] at ho15 | (simp only [Int.reduceToNat] at ho15; rw [← Ny182.out] at ho15))
         have HO184 := rL_ (rN_ ho15 HO181) HB
         replace HO181 := rE_ HO181 ho15 hb; replace BK174 := bB_ BK174 hb; replace BK175 := bB_ BK175 hb; replace HB := bS_ HB hb; clear hb ho15
         refine hK.out _ _ ⟨(blk_cell BK174.out 0).trans rfl, (blk_cell BK174.out 1).trans rfl⟩ (fun hHeld => ?_)
         clear hK K
         refine nS_ (some 23) ?_
         exact norm_ (by simp only [putAll, Act.put, List.setIfInBounds_toArray, List.set_cons_zero, List.set_cons_succ] <;> rfl) (hJ0_3_4 (v177, v180, v183) _ ⟨hHeld, (rM_ HO181), (rM_ HO184), (bT_ BK174), (bT_ BK175), sABelo_4⟩)
        ·skip
         refine box_step ?hg (N := 6) ?hd (cs := #[.slice none 0 0, .slice none 0 0]) (t := 26) ?hr ?_; (case hd => rfl); (case hg => rfl); (case hr => first | (go_simp; done) | (go_simp; rfl))
         intro gb188 hg w14 hbox hb
         replace HO181 := rB_ HO181 hb
         have BK188 := Aside0.mk (hbox)
         have GW188 := gE_ HB hg; have GE188 := gE_ HB hg; replace HB := bS_ HB hb; have NB174_188 := nL_ BK174 hg; have NB188_174 := nG_ BK174 hg; replace BK174 := bB_ BK174 hb; have NB175_188 := nL_ BK175 hg; have NB188_175 := nG_ BK175 hg; replace BK175 := bB_ BK175 hb; clear hb hbox hg
         refine hK.out _ _ ⟨(blk_cell BK174.out 0).trans rfl, (blk_cell BK174.out 1).trans rfl⟩ (fun hHeld => ?_)
         clear hK K
         refine nS_ (some 6) ?_
         exact norm_ (by simp only [putAll, Act.put, List.setIfInBounds_toArray, List.set_cons_zero, List.set_cons_succ] <;> rfl) (hJ0_3_9 (v177, v180, gb188) _ ⟨hHeld, (rT_ HO181), (bT_ BK174), (bT_ BK175), (bT_ BK188), GW188.out, GE188.out, NB174_188.out, NB188_174.out, NB175_188.out, NB188_175.out, sABelo_4⟩)
      ·skip
       rintro ⟨v177, v183, gb188⟩ w15 ⟨hS_, h0_, h1_, h2_, h3_, h4_, h5_, h6_, h7_, h8_, h9_, h10_, h11_⟩
       try dsimp only at h0_ h1_ h2_ h3_ h4_ h5_ h6_ h7_ h8_ h9_ h10_ h11_
       have HO178 := Aside0.mk h0_; have HO184 := Aside0.mk h1_; replace BK174 := Aside0.mk h2_; replace BK175 := Aside0.mk h3_; have BK188 := Aside0.mk h4_; have GW188 := Aside0.mk h5_; have GE188 := Aside0.mk h6_; have NB174_188 := Aside0.mk h7_; have NB188_174 := Aside0.mk h8_; have NB175_188 := Aside0.mk h9_; have NB188_175 := Aside0.mk h10_; replace HB := Aside0.mk h11_; clear h0_ h1_ h2_ h3_ h4_ h5_ h6_ h7_ h8_ h9_ h10_ h11_
       have hHeld : w15.cell? ⟨gb174, 0, none⟩ = some (.slice A0_0 l0_0.length c0_0) ∧ w15.cell? ⟨gb174, 1, none⟩ = some (.slice A0_1 l0_1.length c0_1) := hS_
       refine norm_ (a' := ?_) ?_ ?_
       rotate_left
       ·simp only [putAll, Act.put, List.setIfInBounds_toArray, List.set_cons_zero, List.set_cons_succ]
        rfl
       refine one_ (i := 3) (N := some 22) #[true, true, true, true, true, true, true, false, false, true, false] rfl rfl (one_of HT_.out (by kernel_rfl)) (by decide) (fun K hK => ?_)
       refine Kd.R_append_rows_step (Kd.int .i64) (w0 := w) w.heap.size (by rfl) (.tmp 19) (.tmp 21) 22 2 (.int .i64 0) 8 rfl Try.underlying22 info2 rfl (by decide) (by omega) v177 y176 l0_0 _ _ _ (fun k_ => some k_ ≠ (v183 : Value).ownBlock) (fun _ => False) rfl rfl ?aO ?aR (fun _ _ h => h) (fun _ h => h.elim) ?aF ?aB ?aS ?aL ?_
       (case aR => repeat (first | exact (Kd.C_below HR0_0.out HB.out) | (with_reducible refine Kd.C_alloc ?_ _) | (with_reducible refine Kd.C_drewN ?_ _) | (with_reducible refine Kd.C_drew ?_)))
       (case aB => exact sABelo_4)
       (case aF => exact (fun k_ hk => Kd.fresh' (rLt_ HO184) k_ hk))
       (case aO => exact (rT_ HO178))
       (case aS => exact (below_size sABelo_4))
       (case aL => have := LMc3.out; omega)
       intro v180 w16 ho hb hg hat
       rw [← Ny179.out] at ho
       replace BK174 := Aside0.mk (blk_grown (g := gb174) (o := .cells #[.slice A0_0 l0_0.length c0_0, .slice A0_1 l0_1.length c0_1] 26 (0, 0)) (bT_ BK174) hg (Kd.R_ne HO178.out BK174.out (by decide)))
       replace BK175 := Aside0.mk (blk_grown (g := gb175) (o := .cells #[.slice none 0 0, .slice none 0 0] 26 (0, 0)) (bT_ BK175) hg (Kd.R_ne HO178.out BK175.out (by decide)))
       replace HO184 := Aside0.mk (Kd.R_after (ok := (fun _ => True)) (rM_ HO184 (fun _ hk => ⟨trivial, hk⟩)) hg hat)
       replace BK188 := Aside0.mk (blk_grown (g := gb188) (o := .cells #[.slice none 0 0, .slice none 0 0] 26 (0, 0)) (bT_ BK188) hg (Kd.R_ne HO178.out BK188.out (by decide)))
       replace HB := Aside0.mk (hb)
       have HO181 := Aside0.mk (ho)
       clear HO178 ho hb hg hat
       refine hK.out _ _ ⟨(blk_cell BK174.out 0).trans rfl, (blk_cell BK174.out 1).trans rfl⟩ (fun hHeld => ?_)
       clear hK K
       refine nS_ (some 22) ?_
       exact norm_ (by simp only [putAll, Act.put, List.setIfInBounds_toArray, List.set_cons_zero, List.set_cons_succ] <;> rfl) (hJ0_3_4_9 (v177, v180, v183, gb188) _ ⟨hHeld, (rT_ HO181), (rM_ HO184), (bT_ BK174), (bT_ BK175), (bT_ BK188), GW188.out, GE188.out, NB174_188.out, NB188_174.out, NB175_188.out, NB188_175.out, sABelo_4⟩)
     ·skip
      rintro ⟨v177, v180, gb188⟩ w14 ⟨hS_, h0_, h1_, h2_, h3_, h4_, h5_, h6_, h7_, h8_, h9_, h10_⟩
      try dsimp only at h0_ h1_ h2_ h3_ h4_ h5_ h6_ h7_ h8_ h9_ h10_
      have HO181 := Aside0.mk h0_; replace BK174 := Aside0.mk h1_; replace BK175 := Aside0.mk h2_; have BK188 := Aside0.mk h3_; have GW188 := Aside0.mk h4_; have GE188 := Aside0.mk h5_; have NB174_188 := Aside0.mk h6_; have NB188_174 := Aside0.mk h7_; have NB175_188 := Aside0.mk h8_; have NB188_175 := Aside0.mk h9_; replace HB := Aside0.mk h10_; clear h0_ h1_ h2_ h3_ h4_ h5_ h6_ h7_ h8_ h9_ h10_
      have hHeld : w14.cell? ⟨gb174, 0, none⟩ = some (.slice A0_0 l0_0.length c0_0) ∧ w14.cell? ⟨gb174, 1, none⟩ = some (.slice A0_1 l0_1.length c0_1) := hS_
      refine norm_ (a' := ?_) ?_ ?_
      rotate_left
      ·simp only [putAll, Act.put, List.setIfInBounds_toArray, List.set_cons_zero, List.set_cons_succ]
       rfl
      refine one_ (i := 4) (N := some 23) #[true, true, true, true, true, true, true, false, false, true, false] rfl rfl (one_of HT_.out (by kernel_rfl)) (by decide) (fun K hK => ?_)
      refine Kd.R_lit_step (Kd.int .i64) _ 2 ?hg (N := 23) ?hd (xs := ([] : List Int)) (inner := []) (ok := fun _ => True) (okp := fun _ => True) ?hr ?hp (fun _ hk => hk) trivial (Below.refl _ _) (Nat.le_refl _) (by simp) ?_; (case hd => rfl); (case hg => rfl); (case hr => first | (go_simp; done) | (go_simp; rfl)); (case hp => exact (Reps.none _ _))
      intro v183 w15 ho16 hb hg_ hnew_
      clear hg_ hnew_
      (first | rw [← Ny182.out] at ho16 | (simp only [Int.reduceToNat] at ho16; rw [← Ny182.out] at ho16))
      have HO184 := rL_ (rN_ ho16 HO181) HB
      replace HO181 := rE_ HO181 ho16 hb; replace BK174 := bB_ BK174 hb; replace BK175 := bB_ BK175 hb; replace BK188 := bB_ BK188 hb; replace HB := bS_ HB hb; clear hb ho16
      refine hK.out _ _ ⟨(blk_cell BK174.out 0).trans rfl, (blk_cell BK174.out 1).trans rfl⟩ (fun hHeld => ?_)
      clear hK K
      refine nS_ (some 23) ?_
      exact norm_ (by simp only [putAll, Act.put, List.setIfInBounds_toArray, List.set_cons_zero, List.set_cons_succ] <;> rfl) (hJ0_3_4_9 (v177, v180, v183, gb188) _ ⟨hHeld, (rM_ HO181), (rM_ HO184), (bT_ BK174), (bT_ BK175), (bT_ BK188), GW188.out, GE188.out, NB174_188.out, NB188_174.out, NB175_188.out, NB188_175.out, sABelo_4⟩)
    ·skip
     rintro ⟨v177, v180, v183⟩ w15 ⟨hS_, h0_, h1_, h2_, h3_, h4_⟩
     try dsimp only at h0_ h1_ h2_ h3_ h4_
     have HO181 := Aside0.mk h0_; have HO184 := Aside0.mk h1_; replace BK174 := Aside0.mk h2_; replace BK175 := Aside0.mk h3_; replace HB := Aside0.mk h4_; clear h0_ h1_ h2_ h3_ h4_
     have hHeld : w15.cell? ⟨gb174, 0, none⟩ = some (.slice A0_0 l0_0.length c0_0) ∧ w15.cell? ⟨gb174, 1, none⟩ = some (.slice A0_1 l0_1.length c0_1) := hS_
     refine norm_ (a' := ?_) ?_ ?_
     rotate_left
     ·simp only [putAll, Act.put, List.setIfInBounds_toArray, List.set_cons_zero, List.set_cons_succ]
      rfl
     refine two_ (i := 7) (j := 9) (Ni := some 26) (Nj := some 6) #[true, true, true, true, true, true, true, true, false, false, false] #[true, true, true, true, true, true, true, false, false, true, false] rfl rfl rfl rfl (two_of HT_.out (by kernel_rfl)) (by decide) (by decide) (fun K hK => ?_) (fun K hK => ?_)
     ·skip
      refine Kd.R_append_rows_step (Kd.int .i64) (w0 := w) w.heap.size (by rfl) (.tmp 23) (.tmp 25) 22 2 (.int .i64 0) 8 rfl Try.underlying22 info2 rfl (by decide) (by omega) v183 y182 l0_1 _ _ _ (fun k_ => some k_ ≠ (v180 : Value).ownBlock) (fun _ => False) rfl rfl ?aO ?aR (fun _ _ h => h) (fun _ h => h.elim) ?aF ?aB ?aS ?aL ?_
      (case aR => repeat (first | exact (Kd.C_below HR0_1.out HB.out) | (with_reducible refine Kd.C_alloc ?_ _) | (with_reducible refine Kd.C_drewN ?_ _) | (with_reducible refine Kd.C_drew ?_)))
      (case aB => exact sABelo_4)
      (case aF => exact (fun k_ hk => Kd.fresh' (rLt_ HO181) k_ hk))
      (case aO => exact (rT_ HO184))
      (case aS => exact (below_size sABelo_4))
      (case aL => have := LMc4.out; omega)
      intro v186 w16 ho hb hg hat
      rw [← Ny185.out] at ho
      replace BK174 := Aside0.mk (blk_grown (g := gb174) (o := .cells #[.slice A0_0 l0_0.length c0_0, .slice A0_1 l0_1.length c0_1] 26 (0, 0)) (bT_ BK174) hg (Kd.R_ne HO184.out BK174.out (by decide)))
      replace BK175 := Aside0.mk (blk_grown (g := gb175) (o := .cells #[.slice none 0 0, .slice none 0 0] 26 (0, 0)) (bT_ BK175) hg (Kd.R_ne HO184.out BK175.out (by decide)))
      replace HO181 := Aside0.mk (Kd.R_after (ok := (fun _ => True)) (rM_ HO181 (fun _ hk => ⟨trivial, hk⟩)) hg hat)
      replace HB := Aside0.mk (hb)
      have HO187 := Aside0.mk (ho)
      clear HO184 ho hb hg hat
      obtain ⟨Ao17, co17, eo17⟩ := Kd.R_slice HO187.out
      (first | subst eo17 | (injection eo17 with f1_ f2_ f3_; have f4_ := f1_.symm; have f5_ := f3_.symm; clear f1_ f2_ f3_; subst f4_; subst f5_))
      obtain ⟨Ao18, co18, eo18⟩ := Kd.R_slice HO181.out
      (first | subst eo18 | (injection eo18 with f1_ f2_ f3_; have f4_ := f1_.symm; have f5_ := f3_.symm; clear f1_ f2_ f3_; subst f4_; subst f5_))
      refine hK.out _ _ ⟨(blk_cell BK174.out 0).trans rfl, (blk_cell BK174.out 1).trans rfl⟩ (fun hHeld => ?_)
      clear hK K
      refine nS_ (some 26) ?_
      refine pT_ 8 (some 27) #[true, true, true, true, true, true, true, true, true, false, false] HT_ ?_
      exact norm_ (by simp only [putAll, Act.put, List.setIfInBounds_toArray, List.set_cons_zero, List.set_cons_succ] <;> rfl) (hJ0_3_4_7 (v177, .slice Ao18 y179.length co18, v183, .slice Ao17 y185.length co17) _ ⟨hHeld, (rM_ HO181), (rT_ HO187), (bT_ BK174), (bT_ BK175), sABelo_4⟩)
     ·skip
      refine box_step ?hg (N := 6) ?hd (cs := #[.slice none 0 0, .slice none 0 0]) (t := 26) ?hr ?_; (case hd => rfl); (case hg => rfl); (case hr => first | (go_simp; done) | (go_simp; rfl))
      intro gb188 hg w16 hbox hb
      replace HO181 := rB_ HO181 hb; replace HO184 := rB_ HO184 hb
      have BK188 := Aside0.mk (hbox)
      have GW188 := gE_ HB hg; have GE188 := gE_ HB hg; replace HB := bS_ HB hb; have NB174_188 := nL_ BK174 hg; have NB188_174 := nG_ BK174 hg; replace BK174 := bB_ BK174 hb; have NB175_188 := nL_ BK175 hg; have NB188_175 := nG_ BK175 hg; replace BK175 := bB_ BK175 hb; clear hb hbox hg
      refine hK.out _ _ ⟨(blk_cell BK174.out 0).trans rfl, (blk_cell BK174.out 1).trans rfl⟩ (fun hHeld => ?_)
      clear hK K
      refine nS_ (some 6) ?_
      exact norm_ (by simp only [putAll, Act.put, List.setIfInBounds_toArray, List.set_cons_zero, List.set_cons_succ] <;> rfl) (hJ0_3_4_9 (v177, v180, v183, gb188) _ ⟨hHeld, (rT_ HO181), (rT_ HO184), (bT_ BK174), (bT_ BK175), (bT_ BK188), GW188.out, GE188.out, NB174_188.out, NB188_174.out, NB175_188.out, NB188_175.out, sABelo_4⟩)
   ·skip
    rintro ⟨v177, v180, v183, gb188⟩ w16 ⟨hS_, h0_, h1_, h2_, h3_, h4_, h5_, h6_, h7_, h8_, h9_, h10_, h11_⟩
    try dsimp only at h0_ h1_ h2_ h3_ h4_ h5_ h6_ h7_ h8_ h9_ h10_ h11_
    have HO181 := Aside0.mk h0_; have HO184 := Aside0.mk h1_; replace BK174 := Aside0.mk h2_; replace BK175 := Aside0.mk h3_; have BK188 := Aside0.mk h4_; have GW188 := Aside0.mk h5_; have GE188 := Aside0.mk h6_; have NB174_188 := Aside0.mk h7_; have NB188_174 := Aside0.mk h8_; have NB175_188 := Aside0.mk h9_; have NB188_175 := Aside0.mk h10_; replace HB := Aside0.mk h11_; clear h0_ h1_ h2_ h3_ h4_ h5_ h6_ h7_ h8_ h9_ h10_ h11_
    have hHeld : w16.cell? ⟨gb174, 0, none⟩ = some (.slice A0_0 l0_0.length c0_0) ∧ w16.cell? ⟨gb174, 1, none⟩ = some (.slice A0_1 l0_1.length c0_1) := hS_
    refine norm_ (a' := ?_) ?_ ?_
    rotate_left
    ·simp only [putAll, Act.put, List.setIfInBounds_toArray, List.set_cons_zero, List.set_cons_succ]
     rfl
    refine one_ (i := 7) (N := some 26) #[true, true, true, true, true, true, true, true, false, true, false] rfl rfl (one_of HT_.out (by kernel_rfl)) (by decide) (fun K hK => ?_)
    refine Kd.R_append_rows_step (Kd.int .i64) (w0 := w) w.heap.size (by rfl) (.tmp 23) (.tmp 25) 22 2 (.int .i64 0) 8 rfl Try.underlying22 info2 rfl (by decide) (by omega) v183 y182 l0_1 _ _ _ (fun k_ => some k_ ≠ (v180 : Value).ownBlock) (fun _ => False) rfl rfl ?aO ?aR (fun _ _ h => h) (fun _ h => h.elim) ?aF ?aB ?aS ?aL ?_
    (case aR => repeat (first | exact (Kd.C_below HR0_1.out HB.out) | (with_reducible refine Kd.C_alloc ?_ _) | (with_reducible refine Kd.C_drewN ?_ _) | (with_reducible refine Kd.C_drew ?_)))
    (case aB => exact sABelo_4)
    (case aF => exact (fun k_ hk => Kd.fresh' (rLt_ HO181) k_ hk))
    (case aO => exact (rT_ HO184))
    (case aS => exact (below_size sABelo_4))
    (case aL => have := LMc4.out; omega)
    intro v186 w17 ho hb hg hat
    rw [← Ny185.out] at ho
    replace BK174 := Aside0.mk (blk_grown (g := gb174) (o := .cells #[.slice A0_0 l0_0.length c0_0, .slice A0_1 l0_1.length c0_1] 26 (0, 0)) (bT_ BK174) hg (Kd.R_ne HO184.out BK174.out (by decide)))
    replace BK175 := Aside0.mk (blk_grown (g := gb175) (o := .cells #[.slice none 0 0, .slice none 0 0] 26 (0, 0)) (bT_ BK175) hg (Kd.R_ne HO184.out BK175.out (by decide)))
    replace HO181 := Aside0.mk (Kd.R_after (ok := (fun _ => True)) (rM_ HO181 (fun _ hk => ⟨trivial, hk⟩)) hg hat)
    replace BK188 := Aside0.mk (blk_grown (g := gb188) (o := .cells #[.slice none 0 0, .slice none 0 0] 26 (0, 0)) (bT_ BK188) hg (Kd.R_ne HO184.out BK188.out (by decide)))
    replace HB := Aside0.mk (hb)
    have HO187 := Aside0.mk (ho)
    clear HO184 ho hb hg hat
    obtain ⟨Ao18, co18, eo18⟩ := Kd.R_slice HO187.out
    (first | subst eo18 | (injection eo18 with f1_ f2_ f3_; have f4_ := f1_.symm; have f5_ := f3_.symm; clear f1_ f2_ f3_; subst f4_; subst f5_))
    obtain ⟨Ao19, co19, eo19⟩ := Kd.R_slice HO181.out
    (first | subst eo19 | (injection eo19 with f1_ f2_ f3_; have f4_ := f1_.symm; have f5_ := f3_.symm; clear f1_ f2_ f3_; subst f4_; subst f5_))
    refine hK.out _ _ ⟨(blk_cell BK174.out 0).trans rfl, (blk_cell BK174.out 1).trans rfl⟩ (fun hHeld => ?_)
    clear hK K
    refine nS_ (some 26) ?_
    refine pT_ 8 (some 27) #[true, true, true, true, true, true, true, true, true, true, false] HT_ ?_
    exact norm_ (by simp only [putAll, Act.put, List.setIfInBounds_toArray, List.set_cons_zero, List.set_cons_succ] <;> rfl) (hJ0_3_4_7_9 (v177, .slice Ao19 y179.length co19, v183, .slice Ao18 y185.length co18, gb188) _ ⟨hHeld, (rM_ HO181), (rT_ HO187), (bT_ BK174), (bT_ BK175), (bT_ BK188), GW188.out, GE188.out, NB174_188.out, NB188_174.out, NB175_188.out, NB188_175.out, sABelo_4⟩)
  ·skip
   rintro ⟨v177, v180, v183, v186⟩ w18 ⟨hS_, h0_, h1_, h2_, h3_, h4_⟩
   try dsimp only at h0_ h1_ h2_ h3_ h4_
   have HO181 := Aside0.mk h0_; have HO187 := Aside0.mk h1_; replace BK174 := Aside0.mk h2_; replace BK175 := Aside0.mk h3_; replace HB := Aside0.mk h4_; clear h0_ h1_ h2_ h3_ h4_
   have hHeld : w18.cell? ⟨gb174, 0, none⟩ = some (.slice A0_0 l0_0.length c0_0) ∧ w18.cell? ⟨gb174, 1, none⟩ = some (.slice A0_1 l0_1.length c0_1) := hS_
   obtain ⟨Ao19, co19, eo19⟩ := Kd.R_slice HO187.out
   (first | subst eo19 | (injection eo19 with f1_ f2_ f3_; have f4_ := f1_.symm; have f5_ := f3_.symm; clear f1_ f2_ f3_; subst f4_; subst f5_))
   obtain ⟨Ao20, co20, eo20⟩ := Kd.R_slice HO181.out
   (first | subst eo20 | (injection eo20 with f1_ f2_ f3_; have f4_ := f1_.symm; have f5_ := f3_.symm; clear f1_ f2_ f3_; subst f4_; subst f5_))
   refine norm_ (a' := ?_) ?_ ?_
   rotate_left
   ·simp only [putAll, Act.put, List.setIfInBounds_toArray, List.set_cons_zero, List.set_cons_succ]
    rfl
   refine one_ (i := 9) (N := some 6) #[true, true, true, true, true, true, true, true, true, true, false] rfl rfl (one_of HT_.out (by kernel_rfl)) (by decide) (fun K hK => ?_)
   refine box_step ?hg (N := 6) ?hd (cs := #[.slice none 0 0, .slice none 0 0]) (t := 26) ?hr ?_; (case hd => rfl); (case hg => rfl); (case hr => first | (go_simp; done) | (go_simp; rfl))
   intro gb188 hg w21 hbox hb
   replace HO181 := rB_ HO181 hb; replace HO187 := rB_ HO187 hb
   have BK188 := Aside0.mk (hbox)
   have GW188 := gE_ HB hg; have GE188 := gE_ HB hg; replace HB := bS_ HB hb; have NB174_188 := nL_ BK174 hg; have NB188_174 := nG_ BK174 hg; replace BK174 := bB_ BK174 hb; have NB175_188 := nL_ BK175 hg; have NB188_175 := nG_ BK175 hg; replace BK175 := bB_ BK175 hb; clear hb hbox hg
   refine hK.out _ _ ⟨(blk_cell BK174.out 0).trans rfl, (blk_cell BK174.out 1).trans rfl⟩ (fun hHeld => ?_)
   clear hK K
   refine nS_ (some 6) ?_
   exact norm_ (by simp only [putAll, Act.put, List.setIfInBounds_toArray, List.set_cons_zero, List.set_cons_succ] <;> rfl) (hJ0_3_4_7_9 (v177, .slice Ao20 y179.length co20, v183, .slice Ao19 y185.length co19, gb188) _ ⟨hHeld, (rT_ HO181), (rT_ HO187), (bT_ BK174), (bT_ BK175), (bT_ BK188), GW188.out, GE188.out, NB174_188.out, NB188_174.out, NB175_188.out, NB188_175.out, sABelo_4⟩)
 rintro ⟨v177, v180, v183, v186, gb188⟩ w19 ⟨hS_, h0_, h1_, h2_, h3_, h4_, h5_, h6_, h7_, h8_, h9_, h10_, h11_⟩
 try dsimp only at h0_ h1_ h2_ h3_ h4_ h5_ h6_ h7_ h8_ h9_ h10_ h11_
 have HO181 := Aside0.mk h0_; have HO187 := Aside0.mk h1_; replace BK174 := Aside0.mk h2_; replace BK175 := Aside0.mk h3_; have BK188 := Aside0.mk h4_; have GW188 := Aside0.mk h5_; have GE188 := Aside0.mk h6_; have NB174_188 := Aside0.mk h7_; have NB188_174 := Aside0.mk h8_; have NB175_188 := Aside0.mk h9_; have NB188_175 := Aside0.mk h10_; replace HB := Aside0.mk h11_; clear h0_ h1_ h2_ h3_ h4_ h5_ h6_ h7_ h8_ h9_ h10_ h11_
 have hHeld : w19.cell? ⟨gb174, 0, none⟩ = some (.slice A0_0 l0_0.length c0_0) ∧ w19.cell? ⟨gb174, 1, none⟩ = some (.slice A0_1 l0_1.length c0_1) := hS_
 obtain ⟨Ao20, co20, eo20⟩ := Kd.R_slice HO187.out
 (first | subst eo20 | (injection eo20 with f1_ f2_ f3_; have f4_ := f1_.symm; have f5_ := f3_.symm; clear f1_ f2_ f3_; subst f4_; subst f5_))
 obtain ⟨Ao21, co21, eo21⟩ := Kd.R_slice HO181.out
 (first | subst eo21 | (injection eo21 with f1_ f2_ f3_; have f4_ := f1_.symm; have f5_ := f3_.symm; clear f1_ f2_ f3_; subst f4_; subst f5_))
 refine norm_ (a' := ?_) ?_ ?_
 rotate_left
 ·simp only [putAll, Act.put, List.setIfInBounds_toArray, List.set_cons_zero, List.set_cons_succ]
  rfl
 refine one_ (i := 10) (N := none) #[true, true, true, true, true, true, true, true, true, true, true] rfl rfl (one_of HT_.out (by kernel_rfl)) (by decide) (fun K hK => ?_)
 have hs22 : w19.cell? ⟨gb188, 0, none⟩ = some (.slice none 0 0) := (blk_cell BK188.out 0).trans rfl
 have hfs22 := blk_frozen BK188.out 0; have hns22_0 := NB174_188.out; have hns22_1 := NB175_188.out; have hms22_0 := NB188_174.out; have hms22_1 := NB188_175.out
 have hs23 : w19.cell? ⟨gb188, 1, none⟩ = some (.slice none 0 0) := (blk_cell BK188.out 1).trans rfl
 have hfs23 := blk_frozen BK188.out 1; have hns23_0 := NB174_188.out; have hns23_1 := NB175_188.out; have hms23_0 := NB188_174.out; have hms23_1 := NB188_175.out
 refine skip_ (w1 := ?_) (by rfl) rfl ?_ ?_
 rotate_left
 ·go_simp
  rfl
 refine hK.out _ _ ⟨((cell_far (p := ⟨gb188, _, none⟩) NB174_188.out _).trans (((cell_far (p := ⟨gb188, _, none⟩) NB174_188.out _).trans (hHeld.1)))), ((cell_far (p := ⟨gb188, _, none⟩) NB174_188.out _).trans (((cell_far (p := ⟨gb188, _, none⟩) NB174_188.out _).trans (hHeld.2))))⟩ (fun hHeld => ?_)
 clear hK K
 refine done_ (done_of HT_.out (by kernel_rfl)) ?_
 try go_wp2
 go_loopg [7] k (fun kq v7 w' => ∃ (x7_1 : Int) (x189000_1 : List Int) (x189001_1 : List Int) (u189000 : Value) (u189001 : Value), v7 = .int .i64 x7_1 ∧ Aside0 (spec_l17Step.l0 kq l1 (l0_0.length : Int) x7_1 l0_0 l0_1 x189000_1 x189001_1 = some (r1, r2)) ∧ Aside0 (kq ≤ k) ∧ Aside0 (Kd.R (Kd.int .i64) 2 w' w.heap.size (fun k_ => some k_ ≠ (u189001 : Value).ownBlock) u189000 x189000_1) ∧ Aside0 (Kd.R (Kd.int .i64) 2 w' w.heap.size (fun k_ => some k_ ≠ (u189000 : Value).ownBlock) u189001 x189001_1) ∧ Aside0 (w'.heap[gb174]? = some (.cells #[(.slice A0_0 l0_0.length c0_0), (.slice A0_1 l0_1.length c0_1)] 26 (0, 0))) ∧ Aside0 (w'.heap[gb175]? = some (.cells #[(.slice none 0 0), (.slice none 0 0)] 26 (0, 0))) ∧ Aside0 (w'.heap[gb188]? = some (.cells #[u189000, u189001] 26 (0, 0))) ∧ Aside0 (Below w.heap.size w w'))
 case atStart => exact ⟨(0), (y179), (y185), (.slice Ao21 y179.length co21), (.slice Ao20 y185.length co20), (by first | rfl | (simp; done) | (simp [*]; done)), H', ⟨Nat.le_refl _⟩, ⟨by (with_reducible repeat (first | apply Kd.R_alloc | apply Kd.R_drewN | apply Kd.R_drew)); exact Kd.R_mono (Kd.R_far (p := ⟨gb188, 1, none⟩) (Kd.R_far (p := ⟨gb188, 0, none⟩) (Kd.R_types HO181.out BK188.out (by decide)) (fun _ hk => hk.2) (.slice Ao21 y179.length co21)) (fun _ hk => hk.2) (.slice Ao20 y185.length co20)) (fun _ hk => hk.1)⟩, ⟨by (with_reducible repeat (first | apply Kd.R_alloc | apply Kd.R_drewN | apply Kd.R_drew)); exact Kd.R_mono (Kd.R_far (p := ⟨gb188, 1, none⟩) (Kd.R_far (p := ⟨gb188, 0, none⟩) (Kd.R_types HO187.out BK188.out (by decide)) (fun _ hk => hk.2) (.slice Ao21 y179.length co21)) (fun _ hk => hk.2) (.slice Ao20 y185.length co20)) (fun _ hk => hk.1)⟩, ⟨by (with_reducible repeat (first | refine blk_drewN ?_ _ | refine blk_drew ?_ | refine blk_alloc ?_ _)); refine blk_far ?_ NB174_188.out _; (with_reducible repeat (first | refine blk_drewN ?_ _ | refine blk_drew ?_ | refine blk_alloc ?_ _)); refine blk_far ?_ NB174_188.out _; exact bT_ BK174⟩, ⟨by (with_reducible repeat (first | refine blk_drewN ?_ _ | refine blk_drew ?_ | refine blk_alloc ?_ _)); refine blk_far ?_ NB175_188.out _; (with_reducible repeat (first | refine blk_drewN ?_ _ | refine blk_drew ?_ | refine blk_alloc ?_ _)); refine blk_far ?_ NB175_188.out _; exact bT_ BK175⟩, ⟨by (with_reducible repeat (first | refine blk_drewN ?_ _ | refine blk_drew ?_ | refine blk_alloc ?_ _)); refine blk_put (cs := #[.slice Ao21 y179.length co21, .slice none 0 0]) ?_ 1 _ rfl; (with_reducible repeat (first | refine blk_drewN ?_ _ | refine blk_drew ?_ | refine blk_alloc ?_ _)); refine blk_put (cs := #[.slice none 0 0, .slice none 0 0]) ?_ 0 _ rfl; exact bT_ BK188⟩, ⟨sABelo_4⟩⟩
 case round =>
  clear H'; (try clear p2); (try clear c3); (try clear c4)
  obtain ⟨x7_1, x189000_1, x189001_1, u189000, u189001, rfl, HA, HK1, HO_189000, HO_189001, BK174, BK175, BK188, HB⟩ := hrel
  cases gk with
  | zero => exact absurd HA.out (by simp [spec_l17Step.l0])
  | succ k1 =>
   have H := HA.out; clear HA
   simp only [spec_l17Step.l0] at H
   by_cases c24 : x7_1 < (l0_0.length : Int)
   ·rw [if_pos c24] at H
    have c24b0 : decide (x7_1 < (l0_0.length : Int)) = true := decide_eq_true c24
    clear c24
    obtain ⟨c25, H⟩ := ifS_ H
    have c25b0 : decide (0 ≤ x7_1) = true := decide_eq_true c25
    clear c25
    obtain ⟨c26, H⟩ := ifS_ H
    have c26b0 : decide (x7_1 < (l0_0.length : Int)) = true := decide_eq_true c26
    clear c26
    obtain ⟨c27, H⟩ := ifS_ H
    have c27b0 : decide (x7_1 < (l0_1.length : Int)) = true := decide_eq_true c27
    clear c27
    by_cases c28 : (l0_0.length : Int) = 0
    ·rw [if_pos c28] at H
     exact absurd H (by simp)
    ·rw [if_neg c28] at H
     have c28b0 : ((l0_0.length : Int) == 0) = false := beq_eq_false_iff_ne.mpr c28
     have c28b1 : ((l0_0.length : Int) != 0) = true := bne_iff_ne.mpr c28
     have c28b2 : ¬ (l0_0 = []) := fun h_ => c28 (by rw [h_]; rfl)
     obtain ⟨c29, H⟩ := ifS_ H
     have c29b0 : decide (x7_1 < (l1.length : Int)) = true := decide_eq_true c29
     clear c29; have HC30 := Aside0.mk H; clear H; have hnb31 := NB174_175.out; have hnc31 := NB175_174.out; have hnb32 := NB174_188.out; have hnc32 := NB188_174.out
     have hcz33_0 : wr.cell? ⟨gb174, 0, none⟩ = some (.slice A0_0 l0_0.length c0_0) := (blk_cell BK174.out 0).trans rfl
     have hcz33_1 : wr.cell? ⟨gb174, 1, none⟩ = some (.slice A0_1 l0_1.length c0_1) := (blk_cell BK174.out 1).trans rfl
     have hfz33_0 := blk_frozen BK174.out 0; have hfz33_1 := blk_frozen BK174.out 1
     have p189 : 0 ≤ (x7_1 : Int) := of_decide_eq_true (by first | (with_reducible assumption) | assumption)
     have q189 : x7_1 < (l0_0.length : Int) := of_decide_eq_true (by first | (with_reducible assumption) | assumption)
     obtain ⟨ad189, e189, hx189_0⟩ := Kd.at_int HR0_0.out x7_1 p189 q189
     cases e189
     replace hx189_0 := (HB.out.cell (World.block_lt_of_cell? w _ hx189_0)).trans hx189_0
     replace p189 := eq_true p189; replace q189 := eq_true q189
     have p190 : 0 ≤ (x7_1 : Int) := of_decide_eq_true (by first | (with_reducible assumption) | assumption)
     have q190 : x7_1 < (l0_1.length : Int) := of_decide_eq_true (by first | (with_reducible assumption) | assumption)
     obtain ⟨ad190, e190, hx190_0⟩ := Kd.at_int HR0_1.out x7_1 p190 q190
     cases e190
     replace hx190_0 := (HB.out.cell (World.block_lt_of_cell? w _ hx190_0)).trans hx190_0
     replace p190 := eq_true p190; replace q190 := eq_true q190
     have p191 : 0 ≤ (x7_1 : Int) := of_decide_eq_true (by first | (with_reducible assumption) | assumption)
     have q191 : x7_1 < (l1.length : Int) := of_decide_eq_true (by first | (with_reducible assumption) | assumption)
     obtain ⟨ad191, e191, hx191_0⟩ := Kd.at_int HR1.out x7_1 p191 q191
     cases e191
     replace hx191_0 := (HB.out.cell (World.block_lt_of_cell? w _ hx191_0)).trans hx191_0
     replace p191 := eq_true p191; replace q191 := eq_true q191
     go_upto_if 57 with (fail)
     go_cut [8, 9] (fun v8 v9 wc => ∃ (kq : Nat) (x8_29 : Int) (x9_29 : Int) (x189000_29 : List Int) (x189001_29 : List Int) (u189000 : Value) (u189001 : Value), v8 = .int .i64 x8_29 ∧ v9 = .int .i64 x9_29 ∧ Aside0 (spec_l17Step.j1 kq l1 (l0_0.length : Int) x7_1 x8_29 x9_29 (Int.tmod (wrap64 (x7_1 + 1)) (l0_0.length : Int)) l0_0 l0_1 x189000_29 x189001_29 = some (r1, r2)) ∧ Aside0 (kq ≤ k1) ∧ Aside0 (Kd.R (Kd.int .i64) 2 wc w.heap.size (fun k_ => some k_ ≠ (u189001 : Value).ownBlock) u189000 x189000_29) ∧ Aside0 (Kd.R (Kd.int .i64) 2 wc w.heap.size (fun k_ => some k_ ≠ (u189000 : Value).ownBlock) u189001 x189001_29) ∧ Aside0 (wc.heap[gb174]? = some (.cells #[(.slice (some ad189) l0_0.length c0_0), (.slice (some ad190) l0_1.length c0_1)] 26 (0, 0))) ∧ Aside0 (wc.heap[gb175]? = some (.cells #[(.slice none 0 0), (.slice none 0 0)] 26 (0, 0))) ∧ Aside0 (wc.heap[gb188]? = some (.cells #[u189000, u189001] 26 (0, 0))) ∧ Aside0 (Below w.heap.size w wc))
     case first =>
      have H := HC30.out; clear HC30
      by_cases c34 : (rd l1 x7_1) < 0
      ·rw [if_pos c34] at H
       have c34b0 : decide ((rd l1 x7_1) < 0) = true := decide_eq_true c34
       clear c34
       (first | rw [c34b0] | (simp only [i64_w, i32_w]; rw [c34b0]) | skip)
       replace H := Option.bind_eq_some_iff.mp H
       obtain ⟨t194, A350, H⟩ := H
       replace H : (if x7_1 < (x189000_1.length : Int) then ((some (x189000_1.set (x7_1 : Int).toNat (wrap64 ((rd x189000_1 x7_1) - (wrap64 (Int.tdiv (wrap64 ((rd l0_0 x7_1) * (wrap64 (-(rd l1 x7_1))))) 256)))) : List Int)).bind fun y196 => (if 0 ≤ (Int.tmod (wrap64 ((wrap64 (x7_1 + (l0_0.length : Int))) - 1)) (l0_0.length : Int)) then (if (Int.tmod (wrap64 ((wrap64 (x7_1 + (l0_0.length : Int))) - 1)) (l0_0.length : Int)) < (x189000_1.length : Int) then (if x7_1 < (x189001_1.length : Int) then ((some (x189001_1.set (x7_1 : Int).toNat (wrap64 ((rd x189001_1 x7_1) - t194)) : List Int)).bind fun y200 => (if (Int.tmod (wrap64 ((wrap64 (x7_1 + (l0_0.length : Int))) - 1)) (l0_0.length : Int)) < (x189001_1.length : Int) then (spec_l17Step.j1 k1 l1 (l0_0.length : Int) x7_1 (wrap64 ((rd l0_0 x7_1) - (wrap64 (Int.tdiv (wrap64 ((rd l0_0 x7_1) * (wrap64 (-(rd l1 x7_1))))) 256)))) (wrap64 ((rd l0_1 x7_1) - t194)) (Int.tmod (wrap64 (x7_1 + 1)) (l0_0.length : Int)) l0_0 l0_1 (y196.set ((Int.tmod (wrap64 ((wrap64 (x7_1 + (l0_0.length : Int))) - 1)) (l0_0.length : Int)) : Int).toNat (wrap64 ((rd y196 (Int.tmod (wrap64 ((wrap64 (x7_1 + (l0_0.length : Int))) - 1)) (l0_0.length : Int))) + (wrap64 (Int.tdiv (wrap64 ((rd l0_0 x7_1) * (wrap64 (-(rd l1 x7_1))))) 256))))) (y200.set ((Int.tmod (wrap64 ((wrap64 (x7_1 + (l0_0.length : Int))) - 1)) (l0_0.length : Int)) : Int).toNat (wrap64 ((rd y200 (Int.tmod (wrap64 ((wrap64 (x7_1 + (l0_0.length : Int))) - 1)) (l0_0.length : Int))) + t194)))) else (none))) else (none)) else (none)) else (none))) else (none)) = some (r1, r2) := H
       have A35 := Aside0.mk A350; clear A350
       obtain ⟨c36, H⟩ := ifS_ H
       have c36b0 : decide (x7_1 < (x189000_1.length : Int)) = true := decide_eq_true c36
       clear c36
       obtain ⟨y196, hy196⟩ : ∃ y_ : List Int, y_ = (x189000_1.set (x7_1 : Int).toNat (wrap64 ((rd x189000_1 x7_1) - (wrap64 (Int.tdiv (wrap64 ((rd l0_0 x7_1) * (wrap64 (-(rd l1 x7_1))))) 256))))) := ⟨_, rfl⟩
       replace H : (if 0 ≤ (Int.tmod (wrap64 ((wrap64 (x7_1 + (l0_0.length : Int))) - 1)) (l0_0.length : Int)) then (if (Int.tmod (wrap64 ((wrap64 (x7_1 + (l0_0.length : Int))) - 1)) (l0_0.length : Int)) < (x189000_1.length : Int) then (if x7_1 < (x189001_1.length : Int) then ((some (x189001_1.set (x7_1 : Int).toNat (wrap64 ((rd x189001_1 x7_1) - t194)) : List Int)).bind fun y200 => (if (Int.tmod (wrap64 ((wrap64 (x7_1 + (l0_0.length : Int))) - 1)) (l0_0.length : Int)) < (x189001_1.length : Int) then (spec_l17Step.j1 k1 l1 (l0_0.length : Int) x7_1 (wrap64 ((rd l0_0 x7_1) - (wrap64 (Int.tdiv (wrap64 ((rd l0_0 x7_1) * (wrap64 (-(rd l1 x7_1))))) 256)))) (wrap64 ((rd l0_1 x7_1) - t194)) (Int.tmod (wrap64 (x7_1 + 1)) (l0_0.length : Int)) l0_0 l0_1 (y196.set ((Int.tmod (wrap64 ((wrap64 (x7_1 + (l0_0.length : Int))) - 1)) (l0_0.length : Int)) : Int).toNat (wrap64 ((rd y196 (Int.tmod (wrap64 ((wrap64 (x7_1 + (l0_0.length : Int))) - 1)) (l0_0.length : Int))) + (wrap64 (Int.tdiv (wrap64 ((rd l0_0 x7_1) * (wrap64 (-(rd l1 x7_1))))) 256))))) (y200.set ((Int.tmod (wrap64 ((wrap64 (x7_1 + (l0_0.length : Int))) - 1)) (l0_0.length : Int)) : Int).toNat (wrap64 ((rd y200 (Int.tmod (wrap64 ((wrap64 (x7_1 + (l0_0.length : Int))) - 1)) (l0_0.length : Int))) + t194)))) else (none))) else (none)) else (none)) else (none)) = some (r1, r2) := by first | (rw [hy196]; with_reducible exact H) | (have H2_ := (Option.bind_some _ _).symm.trans H; rw [hy196]; with_reducible exact H2_) | (have H2_ := (Option.bind_some _ _).symm.trans H; with_reducible exact H2_) | with_reducible exact H | (rw [hy196]; exact H) | exact H
       have Ny196 := Aside0.mk hy196; clear hy196
       obtain ⟨ji38, hji38⟩ : ∃ j_ : Int, (Int.tmod (wrap64 ((wrap64 (x7_1 + (l0_0.length : Int))) - 1)) (l0_0.length : Int)) = j_ := ⟨_, rfl⟩
       replace H : (if 0 ≤ (ji38) then (if (ji38) < (x189000_1.length : Int) then (if x7_1 < (x189001_1.length : Int) then ((some (x189001_1.set (x7_1 : Int).toNat (wrap64 ((rd x189001_1 x7_1) - t194)) : List Int)).bind fun y200 => (if (ji38) < (x189001_1.length : Int) then (spec_l17Step.j1 k1 l1 (l0_0.length : Int) x7_1 (wrap64 ((rd l0_0 x7_1) - (wrap64 (Int.tdiv (wrap64 ((rd l0_0 x7_1) * (wrap64 (-(rd l1 x7_1))))) 256)))) (wrap64 ((rd l0_1 x7_1) - t194)) (Int.tmod (wrap64 (x7_1 + 1)) (l0_0.length : Int)) l0_0 l0_1 (y196.set ((ji38) : Int).toNat (wrap64 ((rd y196 (ji38)) + (wrap64 (Int.tdiv (wrap64 ((rd l0_0 x7_1) * (wrap64 (-(rd l1 x7_1))))) 256))))) (y200.set ((ji38) : Int).toNat (wrap64 ((rd y200 (ji38)) + t194)))) else (none))) else (none)) else (none)) else (none)) = some (r1, r2) := by first | (rw [hji38] at H; exact H) | (simp only [hji38] at H ⊢; exact H)
       (try rw [hji38] at A35)
       obtain ⟨c39, H⟩ := ifS_ H
       have c39b0 : decide (0 ≤ (ji38)) = true := decide_eq_true c39
       clear c39
       obtain ⟨c40, H⟩ := ifS_ H
       have c40b0 : decide ((ji38) < (x189000_1.length : Int)) = true := decide_eq_true c40
       clear c40
       obtain ⟨y198, hy198⟩ : ∃ y_ : List Int, y_ = (y196.set ((ji38) : Int).toNat (wrap64 ((rd y196 (ji38)) + (wrap64 (Int.tdiv (wrap64 ((rd l0_0 x7_1) * (wrap64 (-(rd l1 x7_1))))) 256))))) := ⟨_, rfl⟩
       replace H : (if x7_1 < (x189001_1.length : Int) then ((some (x189001_1.set (x7_1 : Int).toNat (wrap64 ((rd x189001_1 x7_1) - t194)) : List Int)).bind fun y200 => (if (ji38) < (x189001_1.length : Int) then (spec_l17Step.j1 k1 l1 (l0_0.length : Int) x7_1 (wrap64 ((rd l0_0 x7_1) - (wrap64 (Int.tdiv (wrap64 ((rd l0_0 x7_1) * (wrap64 (-(rd l1 x7_1))))) 256)))) (wrap64 ((rd l0_1 x7_1) - t194)) (Int.tmod (wrap64 (x7_1 + 1)) (l0_0.length : Int)) l0_0 l0_1 y198 (y200.set ((ji38) : Int).toNat (wrap64 ((rd y200 (ji38)) + t194)))) else (none))) else (none)) = some (r1, r2) := by first | (rw [hy198]; with_reducible exact H) | (have H2_ := (Option.bind_some _ _).symm.trans H; rw [hy198]; with_reducible exact H2_) | (have H2_ := (Option.bind_some _ _).symm.trans H; with_reducible exact H2_) | with_reducible exact H | (rw [hy198]; exact H) | exact H
       have Ny198 := Aside0.mk hy198; clear hy198
       obtain ⟨c42, H⟩ := ifS_ H
       have c42b0 : decide (x7_1 < (x189001_1.length : Int)) = true := decide_eq_true c42
       clear c42
       obtain ⟨y200, hy200⟩ : ∃ y_ : List Int, y_ = (x189001_1.set (x7_1 : Int).toNat (wrap64 ((rd x189001_1 x7_1) - t194))) := ⟨_, rfl⟩
       replace H : (if (ji38) < (x189001_1.length : Int) then (spec_l17Step.j1 k1 l1 (l0_0.length : Int) x7_1 (wrap64 ((rd l0_0 x7_1) - (wrap64 (Int.tdiv (wrap64 ((rd l0_0 x7_1) * (wrap64 (-(rd l1 x7_1))))) 256)))) (wrap64 ((rd l0_1 x7_1) - t194)) (Int.tmod (wrap64 (x7_1 + 1)) (l0_0.length : Int)) l0_0 l0_1 y198 (y200.set ((ji38) : Int).toNat (wrap64 ((rd y200 (ji38)) + t194)))) else (none)) = some (r1, r2) := by first | (rw [hy200]; with_reducible exact H) | (have H2_ := (Option.bind_some _ _).symm.trans H; rw [hy200]; with_reducible exact H2_) | (have H2_ := (Option.bind_some _ _).symm.trans H; with_reducible exact H2_) | with_reducible exact H | (rw [hy200]; exact H) | exact H
       have Ny200 := Aside0.mk hy200; clear hy200
       obtain ⟨c44, H⟩ := ifS_ H
       have c44b0 : decide ((ji38) < (x189001_1.length : Int)) = true := decide_eq_true c44
       clear c44
       obtain ⟨y202, hy202⟩ : ∃ y_ : List Int, y_ = (y200.set ((ji38) : Int).toNat (wrap64 ((rd y200 (ji38)) + t194))) := ⟨_, rfl⟩
       replace H : (spec_l17Step.j1 k1 l1 (l0_0.length : Int) x7_1 (wrap64 ((rd l0_0 x7_1) - (wrap64 (Int.tdiv (wrap64 ((rd l0_0 x7_1) * (wrap64 (-(rd l1 x7_1))))) 256)))) (wrap64 ((rd l0_1 x7_1) - t194)) (Int.tmod (wrap64 (x7_1 + 1)) (l0_0.length : Int)) l0_0 l0_1 y198 y202) = some (r1, r2) := by first | (rw [hy202]; with_reducible exact H) | (have H2_ := (Option.bind_some _ _).symm.trans H; rw [hy202]; with_reducible exact H2_) | (have H2_ := (Option.bind_some _ _).symm.trans H; with_reducible exact H2_) | with_reducible exact H | (rw [hy202]; exact H) | exact H
       have Ny202 := Aside0.mk hy202; clear hy202; have H' := Aside0.mk H; clear H
       try go_wp2
       replace HO_189000 := Aside0.mk (Kd.R_drew HO_189000.out)
       replace HO_189001 := Aside0.mk (Kd.R_drew HO_189001.out)
       replace BK174 := Aside0.mk (blk_drew BK174.out)
       replace BK175 := Aside0.mk (blk_drew BK175.out)
       replace BK188 := Aside0.mk (blk_drew BK188.out)
       replace HB := Aside0.mk (below_drew1 HB.out)
       have p192 : 0 ≤ (x7_1 : Int) := of_decide_eq_true (by first | (with_reducible assumption) | assumption)
       have q192 : x7_1 < (l0_0.length : Int) := of_decide_eq_true (by first | (with_reducible assumption) | assumption)
       obtain ⟨ad192, e192, hx192_0⟩ := Kd.at_int HR0_0.out x7_1 p192 q192
       have hw192_0 := hx192_0
       obtain rfl : ad189 = ad192 := (by injection e192)
       replace hx192_0 := (HB.out.cell (World.block_lt_of_cell? w _ hx192_0)).trans hx192_0
       replace p192 := eq_true p192; replace q192 := eq_true q192
       have p193 : 0 ≤ (x7_1 : Int) := of_decide_eq_true (by first | (with_reducible assumption) | assumption)
       have q193 : x7_1 < (l1.length : Int) := of_decide_eq_true (by first | (with_reducible assumption) | assumption)
       obtain ⟨ad193, e193, hx193_0⟩ := Kd.at_int HR1.out x7_1 p193 q193
       have hw193_0 := hx193_0
       obtain rfl : ad191 = ad193 := (by injection e193)
       replace hx193_0 := (HB.out.cell (World.block_lt_of_cell? w _ hx193_0)).trans hx193_0
       replace p193 := eq_true p193; replace q193 := eq_true q193
       refine start_ (n := 13) (S := fun w' => w'.cell? ⟨gb174, 0, none⟩ = some (.slice (some ad189) l0_0.length c0_0) ∧ w'.cell? ⟨gb174, 1, none⟩ = some (.slice (some ad190) l0_1.length c0_1) ∧ w'.cell? (ad189.add (x7_1).toNat) = some (.int .i64 (rd l0_0 x7_1)) ∧ w'.cell? (ad191.add (x7_1).toNat) = some (.int .i64 (rd l1 x7_1))) (ds := []) #[false, false, false, false, false, false, false, false, false, false, false, false, false] (by kernel_rfl) rfl rfl ⟨(blk_cell BK174.out 0).trans rfl, (blk_cell BK174.out 1).trans rfl, ((HB.out.cell (World.block_lt_of_cell? w _ hw192_0)).trans hw192_0), ((HB.out.cell (World.block_lt_of_cell? w _ hw193_0)).trans hw193_0)⟩ (fun hHeld => ?_); refine with_tabW spec_l17Step.tab11 spec_l17Step.bits11 (fun HT_ HW_ => ?_)
       generalize wr.drew = w46 at HO_189000 HO_189001 BK174 BK175 BK188 HB hx192_0 hx193_0 hHeld ⊢
       refine pT_ 0 (some 58) #[true, false, false, false, false, false, false, false, false, false, false, false, false] HT_ ?_
       refine pT_ 2 (some 60) #[true, false, true, false, false, false, false, false, false, false, false, false, false] HT_ ?_
       refine pT_ 5 (some 63) #[true, false, true, false, false, true, false, false, false, false, false, false, false] HT_ ?_
       refine pT_ 6 (some 64) #[true, false, true, false, false, true, true, false, false, false, false, false, false] HT_ ?_
       refine pT_ 7 (some 65) #[true, false, true, false, false, true, true, true, false, false, false, false, false] HT_ ?_
       refine tT_ 1 (some 59) #[true, true, true, false, false, true, true, true, false, false, false, false, false] HT_ HW_ hHeld ?_ (hy := by rintro w' ⟨s0, s1, s2, s3⟩; go_simp; with_reducible rfl)
       refine pT_ 3 (some 61) #[true, true, true, true, false, true, true, true, false, false, false, false, false] HT_ ?_
       refine tT_ 4 (some 62) #[true, true, true, true, true, true, true, true, false, false, false, false, false] HT_ HW_ hHeld ?_ (hy := by rintro w' ⟨s0, s1, s2, s3⟩; go_simp; with_reducible rfl)
       refine tT_ 8 (some 66) #[true, true, true, true, true, true, true, true, true, false, false, false, false] HT_ HW_ hHeld ?_ (hy := by rintro w' ⟨s0, s1, s2, s3⟩; go_simp; with_reducible rfl)
       refine pT_ 9 (some 67) #[true, true, true, true, true, true, true, true, true, true, false, false, false] HT_ ?_
       refine pT_ 10 (some 68) #[true, true, true, true, true, true, true, true, true, true, true, false, false] HT_ ?_
       refine pT_ 11 (some 69) #[true, true, true, true, true, true, true, true, true, true, true, true, false] HT_ ?_
       refine pT_ 12 (some 12) #[true, true, true, true, true, true, true, true, true, true, true, true, true] HT_ ?_
       refine done_ (done_of HT_.out (by kernel_rfl)) ?_
       try go_wp2_with (first | ((with_reducible refine gate_callee (f := 39) rfl ?_); refine gL_ (some 73) Try.func39 #[.int .i64 (rd l0_1 x7_1), .int .i64 (wrap64 (Int.tdiv (wrap64 ((rd l0_0 x7_1) * (wrap64 (-(rd l1 x7_1))))) 256)), .int .i64 (rd l0_0 x7_1)] ?_; (with_reducible refine (spec_l17Part.calls (rd l0_1 x7_1) (wrap64 (Int.tdiv (wrap64 ((rd l0_0 x7_1) * (wrap64 (-(rd l1 x7_1))))) 256)) (rd l0_0 x7_1) t194 _ A35.out).mono ?_); rintro e w' ⟨rfl, ⟨nd, rfl⟩⟩; refine ⟨_, rfl, ?_⟩; (try (rw [drewN_self w46]; generalize hq_ : World.drewN w46 _ = w46; have n0_ : Aside0 (Kd.R (Kd.int .i64) 2 w46 w.heap.size (fun k_ => some k_ ≠ (u189001 : Value).ownBlock) u189000 x189000_1) := ⟨by rw [← hq_]; exact (rT_ HO_189000)⟩; have n1_ : Aside0 (Kd.R (Kd.int .i64) 2 w46 w.heap.size (fun k_ => some k_ ≠ (u189000 : Value).ownBlock) u189001 x189001_1) := ⟨by rw [← hq_]; exact (rT_ HO_189001)⟩; have n2_ : Aside0 (w46.heap[gb174]? = some (.cells #[.slice (some ad189) l0_0.length c0_0, .slice (some ad190) l0_1.length c0_1] 26 (0, 0))) := ⟨by rw [← hq_]; exact (bT_ BK174)⟩; have n3_ : Aside0 (w46.heap[gb175]? = some (.cells #[.slice none 0 0, .slice none 0 0] 26 (0, 0))) := ⟨by rw [← hq_]; exact (bT_ BK175)⟩; have n4_ : Aside0 (w46.heap[gb188]? = some (.cells #[u189000, u189001] 26 (0, 0))) := ⟨by rw [← hq_]; exact (bT_ BK188)⟩; have n5_ : Aside0 (Below w.heap.size w w46) := ⟨by rw [← hq_]; exact sABelo_4⟩; clear HO_189000 HO_189001 BK174 BK175 BK188 HB hq_; have HO_189000 := n0_; have HO_189001 := n1_; have BK174 := n2_; have BK175 := n3_; have BK188 := n4_; have HB := n5_; clear n0_ n1_ n2_ n3_ n4_ n5_))))
       replace HO_189000 := Aside0.mk (Kd.R_drew HO_189000.out)
       replace HO_189001 := Aside0.mk (Kd.R_drew HO_189001.out)
       replace BK174 := Aside0.mk (blk_drew BK174.out)
       replace BK175 := Aside0.mk (blk_drew BK175.out)
       replace BK188 := Aside0.mk (blk_drew BK188.out)
       replace HB := Aside0.mk (below_drew1 HB.out)
       obtain ⟨Ao48, co48, eo48⟩ := Kd.R_slice HO_189000.out
       (first | subst eo48 | (injection eo48 with f1_ f2_ f3_; have f4_ := f1_.symm; have f5_ := f3_.symm; clear f1_ f2_ f3_; subst f4_; subst f5_))
       have p195 : 0 ≤ (x7_1 : Int) := of_decide_eq_true (by first | (with_reducible assumption) | assumption)
       have q195 : x7_1 < (x189000_1.length : Int) := of_decide_eq_true (by first | (with_reducible assumption) | assumption)
       obtain ⟨ad195, e195, hx195_0⟩ := Kd.at_int (Kd.R_reads' HO_189000.out).2.2 x7_1 p195 q195
       cases e195
       replace p195 := eq_true p195; replace q195 := eq_true q195
       have p37 : 0 ≤ (x7_1 : Int) := of_decide_eq_true (by first | (with_reducible assumption) | assumption)
       have q37 : (x7_1 : Int) < ((x189000_1.length : Int) : Int) := of_decide_eq_true (by first | (with_reducible assumption) | assumption)
       obtain ⟨go37, co37, eo37, gb37, gl37, cl37, HG37⟩ := Kd.R_form HO_189000.out (by omega)
       (first | cases eo37 | (injection eo37 with ea_ en_ ec_; (first | subst ea_ | (injection ea_ with ea_; subst ea_)); subst ec_; clear en_))
       have GB37 := Aside0.mk gb37; have GG37 := Aside0.mk HG37; clear gb37 gl37 HG37
       (first | simp only [add_plain] at hx195_0 | skip)
       obtain ⟨hx37_0, hf37_0⟩ := Kd.R_celln 0 HO_189000.out (x7_1 : Int) p37 q37
       replace p37 := eq_true p37; replace q37 := eq_true q37
       have HP49 := Kd.R_putn HO_189000.out (x7_1 : Int) (wrap64 ((rd x189000_1 x7_1) - (wrap64 (Int.tdiv (wrap64 ((rd l0_0 x7_1) * (wrap64 (-(rd l1 x7_1))))) 256))))
       rw [← Ny196.out] at HP49
       have HQ49 := Aside0.mk HP49; clear HP49
       refine start_ (n := 12) (S := fun w' => w'.cell? ⟨gb188, 0, none⟩ = some (.slice (some ⟨go37, 0, none⟩) x189000_1.length co48) ∧ w'.cell? ⟨gb188, 1, none⟩ = some (u189001) ∧ w'.cell? ⟨go37, (x7_1).toNat, none⟩ = some (.int .i64 (rd x189000_1 x7_1))) (ds := [11]) #[false, false, false, false, false, false, false, false, false, false, false, false] (by kernel_rfl) rfl rfl ⟨(blk_cell BK188.out 0).trans rfl, (blk_cell BK188.out 1).trans rfl, hx195_0⟩ (fun hHeld => ?_); refine with_tabW spec_l17Step.tab13 spec_l17Step.bits13 (fun HT_ HW_ => ?_)
       generalize w46.drew = w47 at HO_189000 HO_189001 BK174 BK175 BK188 HB GG37 HQ49 hf37_0 hx195_0 hx37_0 hHeld ⊢
       refine pT_ 0 (some 74) #[true, false, false, false, false, false, false, false, false, false, false, false] HT_ ?_
       refine pT_ 2 (some 76) #[true, false, true, false, false, false, false, false, false, false, false, false] HT_ ?_
       refine pT_ 3 (some 77) #[true, false, true, true, false, false, false, false, false, false, false, false] HT_ ?_
       refine pT_ 5 (some 79) #[true, false, true, true, false, true, false, false, false, false, false, false] HT_ ?_
       refine pT_ 8 (some 82) #[true, false, true, true, false, true, false, false, true, false, false, false] HT_ ?_
       refine tT_ 1 (some 75) #[true, true, true, true, false, true, false, false, true, false, false, false] HT_ HW_ hHeld ?_ (hy := by rintro w' ⟨s0, s1, s2⟩; go_simp; with_reducible rfl)
       refine tT_ 4 (some 78) #[true, true, true, true, true, true, false, false, true, false, false, false] HT_ HW_ hHeld ?_ (hy := by rintro w' ⟨s0, s1, s2⟩; go_simp; with_reducible rfl)
       refine pT_ 6 (some 80) #[true, true, true, true, true, true, true, false, true, false, false, false] HT_ ?_
       refine tT_ 7 (some 81) #[true, true, true, true, true, true, true, true, true, false, false, false] HT_ HW_ hHeld ?_ (hy := by rintro w' ⟨s0, s1, s2⟩; go_simp; with_reducible rfl)
       refine pT_ 9 (some 83) #[true, true, true, true, true, true, true, true, true, true, false, false] HT_ ?_
       refine pT_ 10 (some 84) #[true, true, true, true, true, true, true, true, true, true, true, false] HT_ ?_
       refine last_ (i := 11) (N := none) #[true, true, true, true, true, true, true, true, true, true, true, true] rfl rfl (one_of HT_.out (by kernel_rfl)) (by decide) (fun K hK => ?_)
       refine skip_ (w1 := ?_) (by rfl) rfl ?_ ?_
       rotate_left
       ·go_simp
        rfl
       refine hK.out _ _ ?_
       clear hK K
       refine done_ (done_of HT_.out (by kernel_rfl)) ?_
       try go_wp2
       have n0_ : Aside0 (Kd.R (Kd.int .i64) 2 (w47.setCell ⟨go37, (x7_1 : Int).toNat, none⟩ (.int .i64 (wrap64 ((rd x189000_1 x7_1) - (wrap64 (Int.tdiv (wrap64 ((rd l0_0 x7_1) * (wrap64 (-(rd l1 x7_1))))) 256)))))) w.heap.size (fun k_ => some k_ ≠ (u189001 : Value).ownBlock) (.slice (some ⟨go37, 0, none⟩) x189000_1.length co48) y196) := ⟨by (with_reducible repeat (first | apply Kd.R_alloc | apply Kd.R_drewN | apply Kd.R_drew)); exact HQ49.out⟩
       have n1_ : Aside0 (Kd.R (Kd.int .i64) 2 (w47.setCell ⟨go37, (x7_1 : Int).toNat, none⟩ (.int .i64 (wrap64 ((rd x189000_1 x7_1) - (wrap64 (Int.tdiv (wrap64 ((rd l0_0 x7_1) * (wrap64 (-(rd l1 x7_1))))) 256)))))) w.heap.size (fun k_ => some k_ ≠ (.slice (some ⟨go37, 0, none⟩) x189000_1.length co48 : Value).ownBlock) u189001 x189001_1) := ⟨by (with_reducible repeat (first | apply Kd.R_alloc | apply Kd.R_drewN | apply Kd.R_drew)); exact Kd.R_mono (Kd.R_far (p := ⟨go37, (x7_1 : Int).toNat, none⟩) (Kd.R_mono HO_189001.out (fun k_ hk => (⟨hk, fun e_ => hk (by rw [e_]; rfl)⟩ : _ ∧ k_ ≠ go37))) (fun _ hk => hk.2) (.int .i64 (wrap64 ((rd x189000_1 x7_1) - (wrap64 (Int.tdiv (wrap64 ((rd l0_0 x7_1) * (wrap64 (-(rd l1 x7_1))))) 256)))))) (fun _ hk => hk.1)⟩
       have n2_ : Aside0 ((w47.setCell ⟨go37, (x7_1 : Int).toNat, none⟩ (.int .i64 (wrap64 ((rd x189000_1 x7_1) - (wrap64 (Int.tdiv (wrap64 ((rd l0_0 x7_1) * (wrap64 (-(rd l1 x7_1))))) 256)))))).heap[gb174]? = some (.cells #[.slice (some ad189) l0_0.length c0_0, .slice (some ad190) l0_1.length c0_1] 26 (0, 0))) := ⟨by (with_reducible repeat (first | refine blk_drewN ?_ _ | refine blk_drew ?_ | refine blk_alloc ?_ _)); refine blk_far ?_ (by have h_ := Kd.R_ne HO_189000.out BK174.out (by decide); intro e_; exact h_ (by rw [e_]; rfl)) _; exact bT_ BK174⟩
       have n3_ : Aside0 ((w47.setCell ⟨go37, (x7_1 : Int).toNat, none⟩ (.int .i64 (wrap64 ((rd x189000_1 x7_1) - (wrap64 (Int.tdiv (wrap64 ((rd l0_0 x7_1) * (wrap64 (-(rd l1 x7_1))))) 256)))))).heap[gb175]? = some (.cells #[.slice none 0 0, .slice none 0 0] 26 (0, 0))) := ⟨by (with_reducible repeat (first | refine blk_drewN ?_ _ | refine blk_drew ?_ | refine blk_alloc ?_ _)); refine blk_far ?_ (by have h_ := Kd.R_ne HO_189000.out BK175.out (by decide); intro e_; exact h_ (by rw [e_]; rfl)) _; exact bT_ BK175⟩
       have n4_ : Aside0 ((w47.setCell ⟨go37, (x7_1 : Int).toNat, none⟩ (.int .i64 (wrap64 ((rd x189000_1 x7_1) - (wrap64 (Int.tdiv (wrap64 ((rd l0_0 x7_1) * (wrap64 (-(rd l1 x7_1))))) 256)))))).heap[gb188]? = some (.cells #[.slice (some ⟨go37, 0, none⟩) x189000_1.length co48, u189001] 26 (0, 0))) := ⟨by (with_reducible repeat (first | refine blk_drewN ?_ _ | refine blk_drew ?_ | refine blk_alloc ?_ _)); refine blk_far ?_ (by have h_ := Kd.R_ne HO_189000.out BK188.out (by decide); intro e_; exact h_ (by rw [e_]; rfl)) _; exact bT_ BK188⟩
       have n5_ : Aside0 (Below w.heap.size w (w47.setCell ⟨go37, (x7_1 : Int).toNat, none⟩ (.int .i64 (wrap64 ((rd x189000_1 x7_1) - (wrap64 (Int.tdiv (wrap64 ((rd l0_0 x7_1) * (wrap64 (-(rd l1 x7_1))))) 256))))))) := ⟨sABelo_4⟩
       (try clear HO_189000); (try clear HO_189001); (try clear BK174); (try clear BK175); (try clear BK188); (try clear HB)
       generalize (w47.setCell ⟨go37, (x7_1 : Int).toNat, none⟩ (.int .i64 (wrap64 ((rd x189000_1 x7_1) - (wrap64 (Int.tdiv (wrap64 ((rd l0_0 x7_1) * (wrap64 (-(rd l1 x7_1))))) 256)))))) = w50 at n0_ n1_ n2_ n3_ n4_ n5_ ⊢
       have HO_189000 := n0_; have HO_189001 := n1_; have BK174 := n2_; have BK175 := n3_; have BK188 := n4_; have HB := n5_; clear n0_ n1_ n2_ n3_ n4_ n5_
       replace HO_189000 := Aside0.mk (Kd.R_drew HO_189000.out)
       replace HO_189001 := Aside0.mk (Kd.R_drew HO_189001.out)
       replace BK174 := Aside0.mk (blk_drew BK174.out)
       replace BK175 := Aside0.mk (blk_drew BK175.out)
       replace BK188 := Aside0.mk (blk_drew BK188.out)
       replace HB := Aside0.mk (below_drew1 HB.out)
       have p197 : 0 ≤ ((ji38) : Int) := of_decide_eq_true (by first | (with_reducible assumption) | assumption)
       have q197 : (ji38) < (y196.length : Int) := (by have h_ : ((ji38) : Int) < ((x189000_1.length : Int) : Int) := of_decide_eq_true (by first | (with_reducible assumption) | assumption); first | (have e_ := (Kd.R_reads' HO_189000.out).1; omega) | simpa only [Ny196.out, List.length_set] using h_)
       have ql197 : (((ji38) : Int) < ((x189000_1.length : Int) : Int)) = True := eq_true (of_decide_eq_true (by first | (with_reducible assumption) | assumption))
       obtain ⟨ad197, e197, hx197_0⟩ := Kd.at_int (Kd.R_reads' HO_189000.out).2.2 (ji38) p197 q197
       obtain rfl : (⟨go37, 0, none⟩ : Addr) = ad197 := (by injection e197)
       (first | simp only [add_plain] at hx197_0 | simp only [add_at] at hx197_0 | simp only [Addr.add, Nat.zero_add] at hx197_0 | skip)
       replace p197 := eq_true p197; replace q197 := eq_true q197
       have p41 : 0 ≤ ((ji38) : Int) := of_decide_eq_true (by first | (with_reducible assumption) | assumption)
       have q41 : ((ji38) : Int) < ((x189000_1.length : Int) : Int) := of_decide_eq_true (by first | (with_reducible assumption) | assumption)
       obtain ⟨hx41_0, hf41_0⟩ := Kd.R_celln 0 HO_189000.out ((ji38) : Int) p41 q41
       replace p41 := eq_true p41; replace q41 := eq_true q41
       have HP52 := Kd.R_putn HO_189000.out ((ji38) : Int) (wrap64 ((rd y196 (ji38)) + (wrap64 (Int.tdiv (wrap64 ((rd l0_0 x7_1) * (wrap64 (-(rd l1 x7_1))))) 256))))
       rw [← Ny198.out] at HP52
       have HQ52 := Aside0.mk HP52; clear HP52
       refine start_ (n := 12) (S := fun w' => w'.cell? ⟨gb188, 0, none⟩ = some (.slice (some ⟨go37, 0, none⟩) x189000_1.length co48) ∧ w'.cell? ⟨gb188, 1, none⟩ = some (u189001) ∧ w'.cell? ⟨go37, ((ji38)).toNat, none⟩ = some (.int .i64 (rd y196 (ji38)))) (ds := [11]) #[false, false, false, false, false, false, false, false, false, false, false, false] (by kernel_rfl) rfl rfl ⟨(blk_cell BK188.out 0).trans rfl, (blk_cell BK188.out 1).trans rfl, hx197_0⟩ (fun hHeld => ?_); refine with_tabW spec_l17Step.tab14 spec_l17Step.bits14 (fun HT_ HW_ => ?_)
       generalize w50.drew = w51 at HO_189000 HO_189001 BK174 BK175 BK188 HB HQ49 HQ52 hf41_0 hx197_0 hx41_0 hHeld ⊢
       refine pT_ 0 (some 85) #[true, false, false, false, false, false, false, false, false, false, false, false] HT_ ?_
       refine pT_ 2 (some 87) #[true, false, true, false, false, false, false, false, false, false, false, false] HT_ ?_
       refine pT_ 3 (some 88) #[true, false, true, true, false, false, false, false, false, false, false, false] HT_ ?_
       refine pT_ 5 (some 90) #[true, false, true, true, false, true, false, false, false, false, false, false] HT_ ?_
       refine pT_ 8 (some 93) #[true, false, true, true, false, true, false, false, true, false, false, false] HT_ ?_
       refine tT_ 1 (some 86) #[true, true, true, true, false, true, false, false, true, false, false, false] HT_ HW_ hHeld ?_ (hy := by rintro w' ⟨s0, s1, s2⟩; go_simp; with_reducible rfl)
       refine tT_ 4 (some 89) #[true, true, true, true, true, true, false, false, true, false, false, false] HT_ HW_ hHeld ?_ (hy := by rintro w' ⟨s0, s1, s2⟩; go_simp; with_reducible rfl)
       refine pT_ 6 (some 91) #[true, true, true, true, true, true, true, false, true, false, false, false] HT_ ?_
       refine tT_ 7 (some 92) #[true, true, true, true, true, true, true, true, true, false, false, false] HT_ HW_ hHeld ?_ (hy := by rintro w' ⟨s0, s1, s2⟩; go_simp; with_reducible rfl)
       refine pT_ 9 (some 94) #[true, true, true, true, true, true, true, true, true, true, false, false] HT_ ?_
       refine pT_ 10 (some 95) #[true, true, true, true, true, true, true, true, true, true, true, false] HT_ ?_
       refine last_ (i := 11) (N := none) #[true, true, true, true, true, true, true, true, true, true, true, true] rfl rfl (one_of HT_.out (by kernel_rfl)) (by decide) (fun K hK => ?_)
       refine skip_ (w1 := ?_) (by rfl) rfl ?_ ?_
       rotate_left
       ·go_simp
        rfl
       refine hK.out _ _ ?_
       clear hK K
       refine done_ (done_of HT_.out (by kernel_rfl)) ?_
       try go_wp2
       have n0_ : Aside0 (Kd.R (Kd.int .i64) 2 (w51.setCell ⟨go37, ((ji38) : Int).toNat, none⟩ (.int .i64 (wrap64 ((rd y196 (ji38)) + (wrap64 (Int.tdiv (wrap64 ((rd l0_0 x7_1) * (wrap64 (-(rd l1 x7_1))))) 256)))))) w.heap.size (fun k_ => some k_ ≠ (u189001 : Value).ownBlock) (.slice (some ⟨go37, 0, none⟩) x189000_1.length co48) y198) := ⟨by (with_reducible repeat (first | apply Kd.R_alloc | apply Kd.R_drewN | apply Kd.R_drew)); exact HQ52.out⟩
       have n1_ : Aside0 (Kd.R (Kd.int .i64) 2 (w51.setCell ⟨go37, ((ji38) : Int).toNat, none⟩ (.int .i64 (wrap64 ((rd y196 (ji38)) + (wrap64 (Int.tdiv (wrap64 ((rd l0_0 x7_1) * (wrap64 (-(rd l1 x7_1))))) 256)))))) w.heap.size (fun k_ => some k_ ≠ (.slice (some ⟨go37, 0, none⟩) x189000_1.length co48 : Value).ownBlock) u189001 x189001_1) := ⟨by (with_reducible repeat (first | apply Kd.R_alloc | apply Kd.R_drewN | apply Kd.R_drew)); exact Kd.R_mono (Kd.R_far (p := ⟨go37, ((ji38) : Int).toNat, none⟩) (Kd.R_mono HO_189001.out (fun k_ hk => (⟨hk, fun e_ => hk (by rw [e_]; rfl)⟩ : _ ∧ k_ ≠ go37))) (fun _ hk => hk.2) (.int .i64 (wrap64 ((rd y196 (ji38)) + (wrap64 (Int.tdiv (wrap64 ((rd l0_0 x7_1) * (wrap64 (-(rd l1 x7_1))))) 256)))))) (fun _ hk => hk.1)⟩
       have n2_ : Aside0 ((w51.setCell ⟨go37, ((ji38) : Int).toNat, none⟩ (.int .i64 (wrap64 ((rd y196 (ji38)) + (wrap64 (Int.tdiv (wrap64 ((rd l0_0 x7_1) * (wrap64 (-(rd l1 x7_1))))) 256)))))).heap[gb174]? = some (.cells #[.slice (some ad189) l0_0.length c0_0, .slice (some ad190) l0_1.length c0_1] 26 (0, 0))) := ⟨by (with_reducible repeat (first | refine blk_drewN ?_ _ | refine blk_drew ?_ | refine blk_alloc ?_ _)); refine blk_far ?_ (by have h_ := Kd.R_ne HO_189000.out BK174.out (by decide); intro e_; exact h_ (by rw [e_]; rfl)) _; exact bT_ BK174⟩
       have n3_ : Aside0 ((w51.setCell ⟨go37, ((ji38) : Int).toNat, none⟩ (.int .i64 (wrap64 ((rd y196 (ji38)) + (wrap64 (Int.tdiv (wrap64 ((rd l0_0 x7_1) * (wrap64 (-(rd l1 x7_1))))) 256)))))).heap[gb175]? = some (.cells #[.slice none 0 0, .slice none 0 0] 26 (0, 0))) := ⟨by (with_reducible repeat (first | refine blk_drewN ?_ _ | refine blk_drew ?_ | refine blk_alloc ?_ _)); refine blk_far ?_ (by have h_ := Kd.R_ne HO_189000.out BK175.out (by decide); intro e_; exact h_ (by rw [e_]; rfl)) _; exact bT_ BK175⟩
       have n4_ : Aside0 ((w51.setCell ⟨go37, ((ji38) : Int).toNat, none⟩ (.int .i64 (wrap64 ((rd y196 (ji38)) + (wrap64 (Int.tdiv (wrap64 ((rd l0_0 x7_1) * (wrap64 (-(rd l1 x7_1))))) 256)))))).heap[gb188]? = some (.cells #[.slice (some ⟨go37, 0, none⟩) x189000_1.length co48, u189001] 26 (0, 0))) := ⟨by (with_reducible repeat (first | refine blk_drewN ?_ _ | refine blk_drew ?_ | refine blk_alloc ?_ _)); refine blk_far ?_ (by have h_ := Kd.R_ne HO_189000.out BK188.out (by decide); intro e_; exact h_ (by rw [e_]; rfl)) _; exact bT_ BK188⟩
       have n5_ : Aside0 (Below w.heap.size w (w51.setCell ⟨go37, ((ji38) : Int).toNat, none⟩ (.int .i64 (wrap64 ((rd y196 (ji38)) + (wrap64 (Int.tdiv (wrap64 ((rd l0_0 x7_1) * (wrap64 (-(rd l1 x7_1))))) 256))))))) := ⟨sABelo_4⟩
       (try clear HO_189000); (try clear HO_189001); (try clear BK174); (try clear BK175); (try clear BK188); (try clear HB)
       generalize (w51.setCell ⟨go37, ((ji38) : Int).toNat, none⟩ (.int .i64 (wrap64 ((rd y196 (ji38)) + (wrap64 (Int.tdiv (wrap64 ((rd l0_0 x7_1) * (wrap64 (-(rd l1 x7_1))))) 256)))))) = w53 at n0_ n1_ n2_ n3_ n4_ n5_ ⊢
       have HO_189000 := n0_; have HO_189001 := n1_; have BK174 := n2_; have BK175 := n3_; have BK188 := n4_; have HB := n5_; clear n0_ n1_ n2_ n3_ n4_ n5_
       replace HO_189000 := Aside0.mk (Kd.R_drew HO_189000.out)
       replace HO_189001 := Aside0.mk (Kd.R_drew HO_189001.out)
       replace BK174 := Aside0.mk (blk_drew BK174.out)
       replace BK175 := Aside0.mk (blk_drew BK175.out)
       replace BK188 := Aside0.mk (blk_drew BK188.out)
       replace HB := Aside0.mk (below_drew1 HB.out)
       obtain ⟨Ao55, co55, eo55⟩ := Kd.R_slice HO_189001.out
       (first | subst eo55 | (injection eo55 with f1_ f2_ f3_; have f4_ := f1_.symm; have f5_ := f3_.symm; clear f1_ f2_ f3_; subst f4_; subst f5_))
       have p199 : 0 ≤ (x7_1 : Int) := of_decide_eq_true (by first | (with_reducible assumption) | assumption)
       have q199 : x7_1 < (x189001_1.length : Int) := of_decide_eq_true (by first | (with_reducible assumption) | assumption)
       obtain ⟨ad199, e199, hx199_0⟩ := Kd.at_int (Kd.R_reads' HO_189001.out).2.2 x7_1 p199 q199
       cases e199
       replace p199 := eq_true p199; replace q199 := eq_true q199
       have p43 : 0 ≤ (x7_1 : Int) := of_decide_eq_true (by first | (with_reducible assumption) | assumption)
       have q43 : (x7_1 : Int) < ((x189001_1.length : Int) : Int) := of_decide_eq_true (by first | (with_reducible assumption) | assumption)
       obtain ⟨go43, co43, eo43, gb43, gl43, cl43, HG43⟩ := Kd.R_form HO_189001.out (by omega)
       (first | cases eo43 | (injection eo43 with ea_ en_ ec_; (first | subst ea_ | (injection ea_ with ea_; subst ea_)); subst ec_; clear en_))
       have GB43 := Aside0.mk gb43; have GG43 := Aside0.mk HG43; clear gb43 gl43 HG43
       (first | simp only [add_plain] at hx199_0 | skip)
       obtain ⟨hx43_0, hf43_0⟩ := Kd.R_celln 0 HO_189001.out (x7_1 : Int) p43 q43
       replace p43 := eq_true p43; replace q43 := eq_true q43
       have HP56 := Kd.R_putn HO_189001.out (x7_1 : Int) (wrap64 ((rd x189001_1 x7_1) - t194))
       rw [← Ny200.out] at HP56
       have HQ56 := Aside0.mk HP56; clear HP56
       refine start_ (n := 12) (S := fun w' => w'.cell? ⟨gb188, 0, none⟩ = some (.slice (some ⟨go37, 0, none⟩) x189000_1.length co48) ∧ w'.cell? ⟨gb188, 1, none⟩ = some (.slice (some ⟨go43, 0, none⟩) x189001_1.length co55) ∧ w'.cell? ⟨go43, (x7_1).toNat, none⟩ = some (.int .i64 (rd x189001_1 x7_1))) (ds := [11]) #[false, false, false, false, false, false, false, false, false, false, false, false] (by kernel_rfl) rfl rfl ⟨(blk_cell BK188.out 0).trans rfl, (blk_cell BK188.out 1).trans rfl, hx199_0⟩ (fun hHeld => ?_); refine with_tabW spec_l17Step.tab15 spec_l17Step.bits15 (fun HT_ HW_ => ?_)
       generalize w53.drew = w54 at HO_189000 HO_189001 BK174 BK175 BK188 HB GG43 HQ52 HQ56 hf43_0 hx199_0 hx43_0 hHeld ⊢
       refine pT_ 0 (some 96) #[true, false, false, false, false, false, false, false, false, false, false, false] HT_ ?_
       refine pT_ 2 (some 98) #[true, false, true, false, false, false, false, false, false, false, false, false] HT_ ?_
       refine pT_ 3 (some 99) #[true, false, true, true, false, false, false, false, false, false, false, false] HT_ ?_
       refine pT_ 5 (some 101) #[true, false, true, true, false, true, false, false, false, false, false, false] HT_ ?_
       refine pT_ 8 (some 104) #[true, false, true, true, false, true, false, false, true, false, false, false] HT_ ?_
       refine tT_ 1 (some 97) #[true, true, true, true, false, true, false, false, true, false, false, false] HT_ HW_ hHeld ?_ (hy := by rintro w' ⟨s0, s1, s2⟩; go_simp; with_reducible rfl)
       refine tT_ 4 (some 100) #[true, true, true, true, true, true, false, false, true, false, false, false] HT_ HW_ hHeld ?_ (hy := by rintro w' ⟨s0, s1, s2⟩; go_simp; with_reducible rfl)
       refine pT_ 6 (some 102) #[true, true, true, true, true, true, true, false, true, false, false, false] HT_ ?_
       refine tT_ 7 (some 103) #[true, true, true, true, true, true, true, true, true, false, false, false] HT_ HW_ hHeld ?_ (hy := by rintro w' ⟨s0, s1, s2⟩; go_simp; with_reducible rfl)
       refine pT_ 9 (some 105) #[true, true, true, true, true, true, true, true, true, true, false, false] HT_ ?_
       refine pT_ 10 (some 106) #[true, true, true, true, true, true, true, true, true, true, true, false] HT_ ?_
       refine last_ (i := 11) (N := none) #[true, true, true, true, true, true, true, true, true, true, true, true] rfl rfl (one_of HT_.out (by kernel_rfl)) (by decide) (fun K hK => ?_)
       refine skip_ (w1 := ?_) (by rfl) rfl ?_ ?_
       rotate_left
       ·go_simp
        rfl
       refine hK.out _ _ ?_
       clear hK K
       refine done_ (done_of HT_.out (by kernel_rfl)) ?_
       try go_wp2
       have n0_ : Aside0 (Kd.R (Kd.int .i64) 2 (w54.setCell ⟨go43, (x7_1 : Int).toNat, none⟩ (.int .i64 (wrap64 ((rd x189001_1 x7_1) - t194)))) w.heap.size (fun k_ => some k_ ≠ (.slice (some ⟨go43, 0, none⟩) x189001_1.length co55 : Value).ownBlock) (.slice (some ⟨go37, 0, none⟩) x189000_1.length co48) y198) := ⟨by (with_reducible repeat (first | apply Kd.R_alloc | apply Kd.R_drewN | apply Kd.R_drew)); exact Kd.R_mono (Kd.R_far (p := ⟨go43, (x7_1 : Int).toNat, none⟩) (Kd.R_mono HO_189000.out (fun k_ hk => (⟨hk, fun e_ => hk (by rw [e_]; rfl)⟩ : _ ∧ k_ ≠ go43))) (fun _ hk => hk.2) (.int .i64 (wrap64 ((rd x189001_1 x7_1) - t194)))) (fun _ hk => hk.1)⟩
       have n1_ : Aside0 (Kd.R (Kd.int .i64) 2 (w54.setCell ⟨go43, (x7_1 : Int).toNat, none⟩ (.int .i64 (wrap64 ((rd x189001_1 x7_1) - t194)))) w.heap.size (fun k_ => some k_ ≠ (.slice (some ⟨go37, 0, none⟩) x189000_1.length co48 : Value).ownBlock) (.slice (some ⟨go43, 0, none⟩) x189001_1.length co55) y200) := ⟨by (with_reducible repeat (first | apply Kd.R_alloc | apply Kd.R_drewN | apply Kd.R_drew)); exact HQ56.out⟩
       have n2_ : Aside0 ((w54.setCell ⟨go43, (x7_1 : Int).toNat, none⟩ (.int .i64 (wrap64 ((rd x189001_1 x7_1) - t194)))).heap[gb174]? = some (.cells #[.slice (some ad189) l0_0.length c0_0, .slice (some ad190) l0_1.length c0_1] 26 (0, 0))) := ⟨by (with_reducible repeat (first | refine blk_drewN ?_ _ | refine blk_drew ?_ | refine blk_alloc ?_ _)); refine blk_far ?_ (by have h_ := Kd.R_ne HO_189001.out BK174.out (by decide); intro e_; exact h_ (by rw [e_]; rfl)) _; exact bT_ BK174⟩
       have n3_ : Aside0 ((w54.setCell ⟨go43, (x7_1 : Int).toNat, none⟩ (.int .i64 (wrap64 ((rd x189001_1 x7_1) - t194)))).heap[gb175]? = some (.cells #[.slice none 0 0, .slice none 0 0] 26 (0, 0))) := ⟨by (with_reducible repeat (first | refine blk_drewN ?_ _ | refine blk_drew ?_ | refine blk_alloc ?_ _)); refine blk_far ?_ (by have h_ := Kd.R_ne HO_189001.out BK175.out (by decide); intro e_; exact h_ (by rw [e_]; rfl)) _; exact bT_ BK175⟩
       have n4_ : Aside0 ((w54.setCell ⟨go43, (x7_1 : Int).toNat, none⟩ (.int .i64 (wrap64 ((rd x189001_1 x7_1) - t194)))).heap[gb188]? = some (.cells #[.slice (some ⟨go37, 0, none⟩) x189000_1.length co48, .slice (some ⟨go43, 0, none⟩) x189001_1.length co55] 26 (0, 0))) := ⟨by (with_reducible repeat (first | refine blk_drewN ?_ _ | refine blk_drew ?_ | refine blk_alloc ?_ _)); refine blk_far ?_ (by have h_ := Kd.R_ne HO_189001.out BK188.out (by decide); intro e_; exact h_ (by rw [e_]; rfl)) _; exact bT_ BK188⟩
       have n5_ : Aside0 (Below w.heap.size w (w54.setCell ⟨go43, (x7_1 : Int).toNat, none⟩ (.int .i64 (wrap64 ((rd x189001_1 x7_1) - t194))))) := ⟨sABelo_4⟩
       (try clear HO_189000); (try clear HO_189001); (try clear BK174); (try clear BK175); (try clear BK188); (try clear HB)
       generalize (w54.setCell ⟨go43, (x7_1 : Int).toNat, none⟩ (.int .i64 (wrap64 ((rd x189001_1 x7_1) - t194)))) = w57 at n0_ n1_ n2_ n3_ n4_ n5_ ⊢
       have HO_189000 := n0_; have HO_189001 := n1_; have BK174 := n2_; have BK175 := n3_; have BK188 := n4_; have HB := n5_; clear n0_ n1_ n2_ n3_ n4_ n5_
       replace HO_189000 := Aside0.mk (Kd.R_drew HO_189000.out)
       replace HO_189001 := Aside0.mk (Kd.R_drew HO_189001.out)
       replace BK174 := Aside0.mk (blk_drew BK174.out)
       replace BK175 := Aside0.mk (blk_drew BK175.out)
       replace BK188 := Aside0.mk (blk_drew BK188.out)
       replace HB := Aside0.mk (below_drew1 HB.out)
       have p201 : 0 ≤ ((ji38) : Int) := of_decide_eq_true (by first | (with_reducible assumption) | assumption)
       have q201 : (ji38) < (y200.length : Int) := (by have h_ : ((ji38) : Int) < ((x189001_1.length : Int) : Int) := of_decide_eq_true (by first | (with_reducible assumption) | assumption); first | (have e_ := (Kd.R_reads' HO_189001.out).1; omega) | simpa only [Ny200.out, List.length_set] using h_)
       have ql201 : (((ji38) : Int) < ((x189001_1.length : Int) : Int)) = True := eq_true (of_decide_eq_true (by first | (with_reducible assumption) | assumption))
       obtain ⟨ad201, e201, hx201_0⟩ := Kd.at_int (Kd.R_reads' HO_189001.out).2.2 (ji38) p201 q201
       obtain rfl : (⟨go43, 0, none⟩ : Addr) = ad201 := (by injection e201)
       (first | simp only [add_plain] at hx201_0 | simp only [add_at] at hx201_0 | simp only [Addr.add, Nat.zero_add] at hx201_0 | skip)
       replace p201 := eq_true p201; replace q201 := eq_true q201
       have p45 : 0 ≤ ((ji38) : Int) := of_decide_eq_true (by first | (with_reducible assumption) | assumption)
       have q45 : ((ji38) : Int) < ((x189001_1.length : Int) : Int) := of_decide_eq_true (by first | (with_reducible assumption) | assumption)
       obtain ⟨hx45_0, hf45_0⟩ := Kd.R_celln 0 HO_189001.out ((ji38) : Int) p45 q45
       replace p45 := eq_true p45; replace q45 := eq_true q45
       have HP59 := Kd.R_putn HO_189001.out ((ji38) : Int) (wrap64 ((rd y200 (ji38)) + t194))
       rw [← Ny202.out] at HP59
       have HQ59 := Aside0.mk HP59; clear HP59
       refine start_ (n := 12) (S := fun w' => w'.cell? ⟨gb188, 0, none⟩ = some (.slice (some ⟨go37, 0, none⟩) x189000_1.length co48) ∧ w'.cell? ⟨gb188, 1, none⟩ = some (.slice (some ⟨go43, 0, none⟩) x189001_1.length co55) ∧ w'.cell? ⟨go43, ((ji38)).toNat, none⟩ = some (.int .i64 (rd y200 (ji38)))) (ds := [11]) #[false, false, false, false, false, false, false, false, false, false, false, false] (by kernel_rfl) rfl rfl ⟨(blk_cell BK188.out 0).trans rfl, (blk_cell BK188.out 1).trans rfl, hx201_0⟩ (fun hHeld => ?_); refine with_tabW spec_l17Step.tab16 spec_l17Step.bits16 (fun HT_ HW_ => ?_)
       generalize w57.drew = w58 at HO_189000 HO_189001 BK174 BK175 BK188 HB HQ56 HQ59 hf45_0 hx201_0 hx45_0 hHeld ⊢
       refine pT_ 0 (some 107) #[true, false, false, false, false, false, false, false, false, false, false, false] HT_ ?_
       refine pT_ 2 (some 109) #[true, false, true, false, false, false, false, false, false, false, false, false] HT_ ?_
       refine pT_ 3 (some 110) #[true, false, true, true, false, false, false, false, false, false, false, false] HT_ ?_
       refine pT_ 5 (some 112) #[true, false, true, true, false, true, false, false, false, false, false, false] HT_ ?_
       refine pT_ 8 (some 115) #[true, false, true, true, false, true, false, false, true, false, false, false] HT_ ?_
       refine tT_ 1 (some 108) #[true, true, true, true, false, true, false, false, true, false, false, false] HT_ HW_ hHeld ?_ (hy := by rintro w' ⟨s0, s1, s2⟩; go_simp; with_reducible rfl)
       refine tT_ 4 (some 111) #[true, true, true, true, true, true, false, false, true, false, false, false] HT_ HW_ hHeld ?_ (hy := by rintro w' ⟨s0, s1, s2⟩; go_simp; with_reducible rfl)
       refine pT_ 6 (some 113) #[true, true, true, true, true, true, true, false, true, false, false, false] HT_ ?_
       refine tT_ 7 (some 114) #[true, true, true, true, true, true, true, true, true, false, false, false] HT_ HW_ hHeld ?_ (hy := by rintro w' ⟨s0, s1, s2⟩; go_simp; with_reducible rfl)
       refine pT_ 9 (some 116) #[true, true, true, true, true, true, true, true, true, true, false, false] HT_ ?_
       refine pT_ 10 (some 117) #[true, true, true, true, true, true, true, true, true, true, true, false] HT_ ?_
       refine last_ (i := 11) (N := none) #[true, true, true, true, true, true, true, true, true, true, true, true] rfl rfl (one_of HT_.out (by kernel_rfl)) (by decide) (fun K hK => ?_)
       refine skip_ (w1 := ?_) (by rfl) rfl ?_ ?_
       rotate_left
       ·go_simp
        rfl
       refine hK.out _ _ ?_
       clear hK K
       refine done_ (done_of HT_.out (by kernel_rfl)) ?_
       try go_wp2
       (try subst hji38)
       go_meet
       case rel => exact ⟨_, (wrap64 ((rd l0_0 x7_1) - (wrap64 (Int.tdiv (wrap64 ((rd l0_0 x7_1) * (wrap64 (-(rd l1 x7_1))))) 256)))), (wrap64 ((rd l0_1 x7_1) - t194)), (y198), (y202), (.slice (some ⟨go37, 0, none⟩) x189000_1.length co48), (.slice (some ⟨go43, 0, none⟩) x189001_1.length co55), (by first | rfl | (simp; done) | (simp [*]; done)), (by first | rfl | (simp; done) | (simp [*]; done)), H', ⟨by have := HK1.out; first | omega | exact Nat.le_refl _⟩, ⟨by (with_reducible repeat (first | apply Kd.R_alloc | apply Kd.R_drewN | apply Kd.R_drew)); exact Kd.R_mono (Kd.R_far (p := ⟨go43, (((Int.tmod (wrap64 ((wrap64 (x7_1 + (l0_0.length : Int))) - 1)) (l0_0.length : Int))) : Int).toNat, none⟩) (Kd.R_mono HO_189000.out (fun k_ hk => (⟨hk, fun e_ => hk (by rw [e_]; rfl)⟩ : _ ∧ k_ ≠ go43))) (fun _ hk => hk.2) (.int .i64 (wrap64 ((rd y200 ((Int.tmod (wrap64 ((wrap64 (x7_1 + (l0_0.length : Int))) - 1)) (l0_0.length : Int)))) + t194)))) (fun _ hk => hk.1)⟩, ⟨by (with_reducible repeat (first | apply Kd.R_alloc | apply Kd.R_drewN | apply Kd.R_drew)); exact HQ59.out⟩, ⟨by (with_reducible repeat (first | refine blk_drewN ?_ _ | refine blk_drew ?_ | refine blk_alloc ?_ _)); refine blk_far ?_ (by have h_ := Kd.R_ne HO_189001.out BK174.out (by decide); intro e_; exact h_ (by rw [e_]; rfl)) _; exact bT_ BK174⟩, ⟨by (with_reducible repeat (first | refine blk_drewN ?_ _ | refine blk_drew ?_ | refine blk_alloc ?_ _)); refine blk_far ?_ (by have h_ := Kd.R_ne HO_189001.out BK175.out (by decide); intro e_; exact h_ (by rw [e_]; rfl)) _; exact bT_ BK175⟩, ⟨by (with_reducible repeat (first | refine blk_drewN ?_ _ | refine blk_drew ?_ | refine blk_alloc ?_ _)); refine blk_far ?_ (by have h_ := Kd.R_ne HO_189001.out BK188.out (by decide); intro e_; exact h_ (by rw [e_]; rfl)) _; exact bT_ BK188⟩, ⟨sABelo_4⟩⟩
      ·rw [if_neg c34] at H
       have c34b0 : decide ((rd l1 x7_1) < 0) = false := decide_eq_false c34
       clear c34
       (first | rw [c34b0] | (simp only [i64_w, i32_w]; rw [c34b0]) | skip)
       have H' := Aside0.mk H; clear H
       go_wp2
       go_meet
       case rel => exact ⟨_, (rd l0_0 x7_1), (rd l0_1 x7_1), (x189000_1), (x189001_1), (u189000), (u189001), (by first | rfl | (simp; done) | (simp [*]; done)), (by first | rfl | (simp; done) | (simp [*]; done)), H', ⟨by have := HK1.out; first | omega | exact Nat.le_refl _⟩, ⟨by (with_reducible repeat (first | apply Kd.R_alloc | apply Kd.R_drewN | apply Kd.R_drew)); exact HO_189000.out⟩, ⟨by (with_reducible repeat (first | apply Kd.R_alloc | apply Kd.R_drewN | apply Kd.R_drew)); exact HO_189001.out⟩, ⟨by exact bT_ BK174⟩, ⟨by exact bT_ BK175⟩, ⟨by exact bT_ BK188⟩, ⟨sABelo_4⟩⟩
     case rest =>
      clear HC30; (try clear p1); (try clear q1); (try clear hx1); (try clear p2); (try clear q2); (try clear hx2); (try clear c3); (try clear p3); (try clear q3); (try clear hx3); (try clear hf3); (try clear c4); (try clear p4); (try clear q4); (try clear hx4); (try clear hf4); (try clear p6); (try clear p19); (try clear q19); (try clear hx19); (try clear p20); (try clear q20); (try clear hx20); (try clear c34); (try clear c34b0); (try clear c36); (try clear p37); (try clear q37); (try clear hx37); (try clear hf37); (try clear c39); (try clear c40); (try clear p41); (try clear q41); (try clear hx41); (try clear hf41); (try clear c42); (try clear p43); (try clear q43); (try clear hx43); (try clear hf43); (try clear c44); (try clear p45); (try clear q45); (try clear hx45); (try clear hf45); (try clear hx195_0); (try clear hx197_0); (try clear hx199_0); (try clear hx201_0); (try clear hx37_0); (try clear hx41_0); (try clear hx43_0); (try clear hx45_0); (try clear p197); (try clear p199); (try clear p201); (try clear p37); (try clear p41); (try clear p43); (try clear p45); (try clear q197); (try clear q199); (try clear q201); (try clear q37); (try clear q41); (try clear q43); (try clear q45)
      obtain ⟨kq, x8_29, x9_29, x189000_29, x189001_29, u189000, u189001, rfl, rfl, HA, HJ29, HO_189000, HO_189001, BK174, BK175, BK188, HB⟩ := hcut
      cases kq with
      | zero => exact absurd HA.out (by simp [spec_l17Step.j1])
      | succ kj29 =>
       have H := HA.out; clear HA
       simp only [spec_l17Step.j1] at H
       obtain ⟨ji60, hji60⟩ : ∃ j_ : Int, (Int.tmod (wrap64 (x7_1 + 1)) (l0_0.length : Int)) = j_ := ⟨_, rfl⟩
       replace H : (if 0 ≤ (ji60) then (if (ji60) < (l1.length : Int) then (if (rd l1 (ji60)) > 0 then (if 0 ≤ x7_1 then (if x7_1 < (l0_0.length : Int) then ((spec_l17Part.f x9_29 (wrap64 (Int.tdiv (wrap64 ((rd l0_0 x7_1) * (rd l1 (ji60)))) 256)) x8_29).bind fun t206 => (if x7_1 < (x189000_29.length : Int) then ((some (x189000_29.set (x7_1 : Int).toNat (wrap64 ((rd x189000_29 x7_1) - (wrap64 (Int.tdiv (wrap64 ((rd l0_0 x7_1) * (rd l1 (ji60)))) 256)))) : List Int)).bind fun y208 => (if (ji60) < (x189000_29.length : Int) then (if x7_1 < (x189001_29.length : Int) then ((some (x189001_29.set (x7_1 : Int).toNat (wrap64 ((rd x189001_29 x7_1) - t206)) : List Int)).bind fun y212 => (if (ji60) < (x189001_29.length : Int) then (spec_l17Step.l0 kj29 l1 (l0_0.length : Int) (wrap64 (x7_1 + 1)) l0_0 l0_1 (y208.set ((ji60) : Int).toNat (wrap64 ((rd y208 (ji60)) + (wrap64 (Int.tdiv (wrap64 ((rd l0_0 x7_1) * (rd l1 (ji60)))) 256))))) (y212.set ((ji60) : Int).toNat (wrap64 ((rd y212 (ji60)) + t206)))) else (none))) else (none)) else (none))) else (none))) else (none)) else (none)) else (spec_l17Step.l0 kj29 l1 (l0_0.length : Int) (wrap64 (x7_1 + 1)) l0_0 l0_1 x189000_29 x189001_29)) else (none)) else (none)) = some (r1, r2) := by first | (rw [hji60] at H; exact H) | (simp only [hji60] at H ⊢; exact H)
       obtain ⟨c61, H⟩ := ifS_ H
       have c61b0 : decide (0 ≤ (ji60)) = true := decide_eq_true c61
       clear c61
       obtain ⟨c62, H⟩ := ifS_ H
       have c62b0 : decide ((ji60) < (l1.length : Int)) = true := decide_eq_true c62
       clear c62
       by_cases c63 : (rd l1 (ji60)) > 0
       ·rw [if_pos c63] at H
        have c63b0 : decide (0 < (rd l1 (ji60))) = true := decide_eq_true c63
        clear c63
        obtain ⟨c64, H⟩ := ifS_ H
        have c64b0 : decide (0 ≤ x7_1) = true := decide_eq_true c64
        clear c64
        obtain ⟨c65, H⟩ := ifS_ H
        have c65b0 : decide (x7_1 < (l0_0.length : Int)) = true := decide_eq_true c65
        clear c65; replace H := Option.bind_eq_some_iff.mp H
        obtain ⟨t206, A660, H⟩ := H
        replace H : (if x7_1 < (x189000_29.length : Int) then ((some (x189000_29.set (x7_1 : Int).toNat (wrap64 ((rd x189000_29 x7_1) - (wrap64 (Int.tdiv (wrap64 ((rd l0_0 x7_1) * (rd l1 (ji60)))) 256)))) : List Int)).bind fun y208 => (if (ji60) < (x189000_29.length : Int) then (if x7_1 < (x189001_29.length : Int) then ((some (x189001_29.set (x7_1 : Int).toNat (wrap64 ((rd x189001_29 x7_1) - t206)) : List Int)).bind fun y212 => (if (ji60) < (x189001_29.length : Int) then (spec_l17Step.l0 kj29 l1 (l0_0.length : Int) (wrap64 (x7_1 + 1)) l0_0 l0_1 (y208.set ((ji60) : Int).toNat (wrap64 ((rd y208 (ji60)) + (wrap64 (Int.tdiv (wrap64 ((rd l0_0 x7_1) * (rd l1 (ji60)))) 256))))) (y212.set ((ji60) : Int).toNat (wrap64 ((rd y212 (ji60)) + t206)))) else (none))) else (none)) else (none))) else (none)) = some (r1, r2) := H
        have A66 := Aside0.mk A660; clear A660
        obtain ⟨c67, H⟩ := ifS_ H
        have c67b0 : decide (x7_1 < (x189000_29.length : Int)) = true := decide_eq_true c67
        clear c67
        obtain ⟨y208, hy208⟩ : ∃ y_ : List Int, y_ = (x189000_29.set (x7_1 : Int).toNat (wrap64 ((rd x189000_29 x7_1) - (wrap64 (Int.tdiv (wrap64 ((rd l0_0 x7_1) * (rd l1 (ji60)))) 256))))) := ⟨_, rfl⟩
        replace H : (if (ji60) < (x189000_29.length : Int) then (if x7_1 < (x189001_29.length : Int) then ((some (x189001_29.set (x7_1 : Int).toNat (wrap64 ((rd x189001_29 x7_1) - t206)) : List Int)).bind fun y212 => (if (ji60) < (x189001_29.length : Int) then (spec_l17Step.l0 kj29 l1 (l0_0.length : Int) (wrap64 (x7_1 + 1)) l0_0 l0_1 (y208.set ((ji60) : Int).toNat (wrap64 ((rd y208 (ji60)) + (wrap64 (Int.tdiv (wrap64 ((rd l0_0 x7_1) * (rd l1 (ji60)))) 256))))) (y212.set ((ji60) : Int).toNat (wrap64 ((rd y212 (ji60)) + t206)))) else (none))) else (none)) else (none)) = some (r1, r2) := by first | (rw [hy208]; with_reducible exact H) | (have H2_ := (Option.bind_some _ _).symm.trans H; rw [hy208]; with_reducible exact H2_) | (have H2_ := (Option.bind_some _ _).symm.trans H; with_reducible exact H2_) | with_reducible exact H | (rw [hy208]; exact H) | exact H
        have Ny208 := Aside0.mk hy208; clear hy208
        obtain ⟨c69, H⟩ := ifS_ H
        have c69b0 : decide ((ji60) < (x189000_29.length : Int)) = true := decide_eq_true c69
        clear c69
        obtain ⟨y210, hy210⟩ : ∃ y_ : List Int, y_ = (y208.set ((ji60) : Int).toNat (wrap64 ((rd y208 (ji60)) + (wrap64 (Int.tdiv (wrap64 ((rd l0_0 x7_1) * (rd l1 (ji60)))) 256))))) := ⟨_, rfl⟩
        replace H : (if x7_1 < (x189001_29.length : Int) then ((some (x189001_29.set (x7_1 : Int).toNat (wrap64 ((rd x189001_29 x7_1) - t206)) : List Int)).bind fun y212 => (if (ji60) < (x189001_29.length : Int) then (spec_l17Step.l0 kj29 l1 (l0_0.length : Int) (wrap64 (x7_1 + 1)) l0_0 l0_1 y210 (y212.set ((ji60) : Int).toNat (wrap64 ((rd y212 (ji60)) + t206)))) else (none))) else (none)) = some (r1, r2) := by first | (rw [hy210]; with_reducible exact H) | (have H2_ := (Option.bind_some _ _).symm.trans H; rw [hy210]; with_reducible exact H2_) | (have H2_ := (Option.bind_some _ _).symm.trans H; with_reducible exact H2_) | with_reducible exact H | (rw [hy210]; exact H) | exact H
        have Ny210 := Aside0.mk hy210; clear hy210
        obtain ⟨c71, H⟩ := ifS_ H
        have c71b0 : decide (x7_1 < (x189001_29.length : Int)) = true := decide_eq_true c71
        clear c71
        obtain ⟨y212, hy212⟩ : ∃ y_ : List Int, y_ = (x189001_29.set (x7_1 : Int).toNat (wrap64 ((rd x189001_29 x7_1) - t206))) := ⟨_, rfl⟩
        replace H : (if (ji60) < (x189001_29.length : Int) then (spec_l17Step.l0 kj29 l1 (l0_0.length : Int) (wrap64 (x7_1 + 1)) l0_0 l0_1 y210 (y212.set ((ji60) : Int).toNat (wrap64 ((rd y212 (ji60)) + t206)))) else (none)) = some (r1, r2) := by first | (rw [hy212]; with_reducible exact H) | (have H2_ := (Option.bind_some _ _).symm.trans H; rw [hy212]; with_reducible exact H2_) | (have H2_ := (Option.bind_some _ _).symm.trans H; with_reducible exact H2_) | with_reducible exact H | (rw [hy212]; exact H) | exact H
        have Ny212 := Aside0.mk hy212; clear hy212
        obtain ⟨c73, H⟩ := ifS_ H
        have c73b0 : decide ((ji60) < (x189001_29.length : Int)) = true := decide_eq_true c73
        clear c73
        obtain ⟨y214, hy214⟩ : ∃ y_ : List Int, y_ = (y212.set ((ji60) : Int).toNat (wrap64 ((rd y212 (ji60)) + t206))) := ⟨_, rfl⟩
        replace H : (spec_l17Step.l0 kj29 l1 (l0_0.length : Int) (wrap64 (x7_1 + 1)) l0_0 l0_1 y210 y214) = some (r1, r2) := by first | (rw [hy214]; with_reducible exact H) | (have H2_ := (Option.bind_some _ _).symm.trans H; rw [hy214]; with_reducible exact H2_) | (have H2_ := (Option.bind_some _ _).symm.trans H; with_reducible exact H2_) | with_reducible exact H | (rw [hy214]; exact H) | exact H
        have Ny214 := Aside0.mk hy214; clear hy214; have H' := Aside0.mk H; clear H
        have p203 : 0 ≤ ((ji60) : Int) := of_decide_eq_true (by first | (with_reducible assumption) | assumption)
        have q203 : (ji60) < (l1.length : Int) := of_decide_eq_true (by first | (with_reducible assumption) | assumption)
        obtain ⟨ad203, e203, hx203_0⟩ := Kd.at_int HR1.out (ji60) p203 q203
        obtain rfl : ad191 = ad203 := (by injection e203)
        replace hx203_0 := (HB.out.cell (World.block_lt_of_cell? w _ hx203_0)).trans hx203_0
        replace p203 := eq_true p203; replace q203 := eq_true q203
        try go_wp2
        replace HO_189000 := Aside0.mk (Kd.R_drew HO_189000.out)
        replace HO_189001 := Aside0.mk (Kd.R_drew HO_189001.out)
        replace BK174 := Aside0.mk (blk_drew BK174.out)
        replace BK175 := Aside0.mk (blk_drew BK175.out)
        replace BK188 := Aside0.mk (blk_drew BK188.out)
        replace HB := Aside0.mk (below_drew1 HB.out)
        have p204 : 0 ≤ (x7_1 : Int) := of_decide_eq_true (by first | (with_reducible assumption) | assumption)
        have q204 : x7_1 < (l0_0.length : Int) := of_decide_eq_true (by first | (with_reducible assumption) | assumption)
        obtain ⟨ad204, e204, hx204_0⟩ := Kd.at_int HR0_0.out x7_1 p204 q204
        have hw204_0 := hx204_0
        obtain rfl : ad189 = ad204 := (by injection e204)
        replace hx204_0 := (HB.out.cell (World.block_lt_of_cell? w _ hx204_0)).trans hx204_0
        replace p204 := eq_true p204; replace q204 := eq_true q204
        have p205 : 0 ≤ ((ji60) : Int) := of_decide_eq_true (by first | (with_reducible assumption) | assumption)
        have q205 : (ji60) < (l1.length : Int) := of_decide_eq_true (by first | (with_reducible assumption) | assumption)
        obtain ⟨ad205, e205, hx205_0⟩ := Kd.at_int HR1.out (ji60) p205 q205
        have hw205_0 := hx205_0
        obtain rfl : ad191 = ad205 := (by injection e205)
        replace hx205_0 := (HB.out.cell (World.block_lt_of_cell? w _ hx205_0)).trans hx205_0
        replace p205 := eq_true p205; replace q205 := eq_true q205
        refine start_ (n := 12) (S := fun w' => w'.cell? ⟨gb174, 0, none⟩ = some (.slice (some ad189) l0_0.length c0_0) ∧ w'.cell? ⟨gb174, 1, none⟩ = some (.slice (some ad190) l0_1.length c0_1) ∧ w'.cell? (ad189.add (x7_1).toNat) = some (.int .i64 (rd l0_0 x7_1)) ∧ w'.cell? (ad191.add ((ji60)).toNat) = some (.int .i64 (rd l1 (ji60)))) (ds := []) #[false, false, false, false, false, false, false, false, false, false, false, false] (by kernel_rfl) rfl rfl ⟨(blk_cell BK174.out 0).trans rfl, (blk_cell BK174.out 1).trans rfl, ((HB.out.cell (World.block_lt_of_cell? w _ hw204_0)).trans hw204_0), ((HB.out.cell (World.block_lt_of_cell? w _ hw205_0)).trans hw205_0)⟩ (fun hHeld => ?_); refine with_tabW spec_l17Step.tab20 spec_l17Step.bits20 (fun HT_ HW_ => ?_)
        generalize wc.drew = w75 at HO_189000 HO_189001 BK174 BK175 BK188 HB hx204_0 hx205_0 hHeld ⊢
        refine pT_ 0 (some 129) #[true, false, false, false, false, false, false, false, false, false, false, false] HT_ ?_
        refine pT_ 2 (some 131) #[true, false, true, false, false, false, false, false, false, false, false, false] HT_ ?_
        refine pT_ 5 (some 134) #[true, false, true, false, false, true, false, false, false, false, false, false] HT_ ?_
        refine pT_ 6 (some 135) #[true, false, true, false, false, true, true, false, false, false, false, false] HT_ ?_
        refine pT_ 7 (some 136) #[true, false, true, false, false, true, true, true, false, false, false, false] HT_ ?_
        refine tT_ 1 (some 130) #[true, true, true, false, false, true, true, true, false, false, false, false] HT_ HW_ hHeld ?_ (hy := by rintro w' ⟨s0, s1, s2, s3⟩; go_simp; with_reducible rfl)
        refine pT_ 3 (some 132) #[true, true, true, true, false, true, true, true, false, false, false, false] HT_ ?_
        refine tT_ 4 (some 133) #[true, true, true, true, true, true, true, true, false, false, false, false] HT_ HW_ hHeld ?_ (hy := by rintro w' ⟨s0, s1, s2, s3⟩; go_simp; with_reducible rfl)
        refine tT_ 8 (some 137) #[true, true, true, true, true, true, true, true, true, false, false, false] HT_ HW_ hHeld ?_ (hy := by rintro w' ⟨s0, s1, s2, s3⟩; go_simp; with_reducible rfl)
        refine pT_ 9 (some 138) #[true, true, true, true, true, true, true, true, true, true, false, false] HT_ ?_
        refine pT_ 10 (some 139) #[true, true, true, true, true, true, true, true, true, true, true, false] HT_ ?_
        refine pT_ 11 (some 14) #[true, true, true, true, true, true, true, true, true, true, true, true] HT_ ?_
        refine done_ (done_of HT_.out (by kernel_rfl)) ?_
        try go_wp2_with (first | ((with_reducible refine gate_callee (f := 39) rfl ?_); refine goesL_ (some 143) rfl rfl Try.func39 (by kernel_rfl) rfl #[.int .i64 x9_29, .int .i64 (wrap64 (Int.tdiv (wrap64 ((rd l0_0 x7_1) * (rd l1 (ji60)))) 256)), .int .i64 x8_29] rfl (by (try simp only [List.map_toArray, List.map_cons, List.map_nil]); first | done | (simp only [hji60]; rfl) | rfl | (simp only [List.length_drop, List.length_take]; rfl)) ?_; (with_reducible refine (spec_l17Part.calls x9_29 (wrap64 (Int.tdiv (wrap64 ((rd l0_0 x7_1) * (rd l1 (ji60)))) 256)) x8_29 t206 _ A66.out).mono ?_); rintro e w' ⟨rfl, ⟨nd, rfl⟩⟩; refine ⟨_, rfl, ?_⟩; (try (rw [drewN_self w75]; generalize hq_ : World.drewN w75 _ = w75; have n0_ : Aside0 (Kd.R (Kd.int .i64) 2 w75 w.heap.size (fun k_ => some k_ ≠ (u189001 : Value).ownBlock) u189000 x189000_29) := ⟨by rw [← hq_]; exact (rT_ HO_189000)⟩; have n1_ : Aside0 (Kd.R (Kd.int .i64) 2 w75 w.heap.size (fun k_ => some k_ ≠ (u189000 : Value).ownBlock) u189001 x189001_29) := ⟨by rw [← hq_]; exact (rT_ HO_189001)⟩; have n2_ : Aside0 (w75.heap[gb174]? = some (.cells #[.slice (some ad189) l0_0.length c0_0, .slice (some ad190) l0_1.length c0_1] 26 (0, 0))) := ⟨by rw [← hq_]; exact (bT_ BK174)⟩; have n3_ : Aside0 (w75.heap[gb175]? = some (.cells #[.slice none 0 0, .slice none 0 0] 26 (0, 0))) := ⟨by rw [← hq_]; exact (bT_ BK175)⟩; have n4_ : Aside0 (w75.heap[gb188]? = some (.cells #[u189000, u189001] 26 (0, 0))) := ⟨by rw [← hq_]; exact (bT_ BK188)⟩; have n5_ : Aside0 (Below w.heap.size w w75) := ⟨by rw [← hq_]; exact sABelo_4⟩; clear HO_189000 HO_189001 BK174 BK175 BK188 HB hq_; have HO_189000 := n0_; have HO_189001 := n1_; have BK174 := n2_; have BK175 := n3_; have BK188 := n4_; have HB := n5_; clear n0_ n1_ n2_ n3_ n4_ n5_))))
        replace HO_189000 := Aside0.mk (Kd.R_drew HO_189000.out)
        replace HO_189001 := Aside0.mk (Kd.R_drew HO_189001.out)
        replace BK174 := Aside0.mk (blk_drew BK174.out)
        replace BK175 := Aside0.mk (blk_drew BK175.out)
        replace BK188 := Aside0.mk (blk_drew BK188.out)
        replace HB := Aside0.mk (below_drew1 HB.out)
        obtain ⟨Ao77, co77, eo77⟩ := Kd.R_slice HO_189000.out
        (first | subst eo77 | (injection eo77 with f1_ f2_ f3_; have f4_ := f1_.symm; have f5_ := f3_.symm; clear f1_ f2_ f3_; subst f4_; subst f5_))
        have p207 : 0 ≤ (x7_1 : Int) := of_decide_eq_true (by first | (with_reducible assumption) | assumption)
        have q207 : x7_1 < (x189000_29.length : Int) := of_decide_eq_true (by first | (with_reducible assumption) | assumption)
        obtain ⟨ad207, e207, hx207_0⟩ := Kd.at_int (Kd.R_reads' HO_189000.out).2.2 x7_1 p207 q207
        cases e207
        replace p207 := eq_true p207; replace q207 := eq_true q207
        have p68 : 0 ≤ (x7_1 : Int) := of_decide_eq_true (by first | (with_reducible assumption) | assumption)
        have q68 : (x7_1 : Int) < ((x189000_29.length : Int) : Int) := of_decide_eq_true (by first | (with_reducible assumption) | assumption)
        obtain ⟨go68, co68, eo68, gb68, gl68, cl68, HG68⟩ := Kd.R_form HO_189000.out (by omega)
        (first | cases eo68 | (injection eo68 with ea_ en_ ec_; (first | subst ea_ | (injection ea_ with ea_; subst ea_)); subst ec_; clear en_))
        have GB68 := Aside0.mk gb68; have GG68 := Aside0.mk HG68; clear gb68 gl68 HG68
        (first | simp only [add_plain] at hx207_0 | skip)
        obtain ⟨hx68_0, hf68_0⟩ := Kd.R_celln 0 HO_189000.out (x7_1 : Int) p68 q68
        replace p68 := eq_true p68; replace q68 := eq_true q68
        have HP78 := Kd.R_putn HO_189000.out (x7_1 : Int) (wrap64 ((rd x189000_29 x7_1) - (wrap64 (Int.tdiv (wrap64 ((rd l0_0 x7_1) * (rd l1 (ji60)))) 256))))
        rw [← Ny208.out] at HP78
        have HQ78 := Aside0.mk HP78; clear HP78
        refine start_ (n := 12) (S := fun w' => w'.cell? ⟨gb188, 0, none⟩ = some (.slice (some ⟨go68, 0, none⟩) x189000_29.length co77) ∧ w'.cell? ⟨gb188, 1, none⟩ = some (u189001) ∧ w'.cell? ⟨go68, (x7_1).toNat, none⟩ = some (.int .i64 (rd x189000_29 x7_1))) (ds := [11]) #[false, false, false, false, false, false, false, false, false, false, false, false] (by kernel_rfl) rfl rfl ⟨(blk_cell BK188.out 0).trans rfl, (blk_cell BK188.out 1).trans rfl, hx207_0⟩ (fun hHeld => ?_); refine with_tabW spec_l17Step.tab22 spec_l17Step.bits22 (fun HT_ HW_ => ?_)
        generalize w75.drew = w76 at HO_189000 HO_189001 BK174 BK175 BK188 HB GG68 HQ78 hf68_0 hx207_0 hx68_0 hHeld ⊢
        refine pT_ 0 (some 144) #[true, false, false, false, false, false, false, false, false, false, false, false] HT_ ?_
        refine pT_ 2 (some 146) #[true, false, true, false, false, false, false, false, false, false, false, false] HT_ ?_
        refine pT_ 3 (some 147) #[true, false, true, true, false, false, false, false, false, false, false, false] HT_ ?_
        refine pT_ 5 (some 149) #[true, false, true, true, false, true, false, false, false, false, false, false] HT_ ?_
        refine pT_ 8 (some 152) #[true, false, true, true, false, true, false, false, true, false, false, false] HT_ ?_
        refine tT_ 1 (some 145) #[true, true, true, true, false, true, false, false, true, false, false, false] HT_ HW_ hHeld ?_ (hy := by rintro w' ⟨s0, s1, s2⟩; go_simp; with_reducible rfl)
        refine tT_ 4 (some 148) #[true, true, true, true, true, true, false, false, true, false, false, false] HT_ HW_ hHeld ?_ (hy := by rintro w' ⟨s0, s1, s2⟩; go_simp; with_reducible rfl)
        refine pT_ 6 (some 150) #[true, true, true, true, true, true, true, false, true, false, false, false] HT_ ?_
        refine tT_ 7 (some 151) #[true, true, true, true, true, true, true, true, true, false, false, false] HT_ HW_ hHeld ?_ (hy := by rintro w' ⟨s0, s1, s2⟩; go_simp; with_reducible rfl)
        refine pT_ 9 (some 153) #[true, true, true, true, true, true, true, true, true, true, false, false] HT_ ?_
        refine pT_ 10 (some 154) #[true, true, true, true, true, true, true, true, true, true, true, false] HT_ ?_
        refine last_ (i := 11) (N := none) #[true, true, true, true, true, true, true, true, true, true, true, true] rfl rfl (one_of HT_.out (by kernel_rfl)) (by decide) (fun K hK => ?_)
        refine skip_ (w1 := ?_) (by rfl) rfl ?_ ?_
        rotate_left
        ·go_simp
         rfl
        refine hK.out _ _ ?_
        clear hK K
        refine done_ (done_of HT_.out (by kernel_rfl)) ?_
        try go_wp2
        have n0_ : Aside0 (Kd.R (Kd.int .i64) 2 (w76.setCell ⟨go68, (x7_1 : Int).toNat, none⟩ (.int .i64 (wrap64 ((rd x189000_29 x7_1) - (wrap64 (Int.tdiv (wrap64 ((rd l0_0 x7_1) * (rd l1 (ji60)))) 256)))))) w.heap.size (fun k_ => some k_ ≠ (u189001 : Value).ownBlock) (.slice (some ⟨go68, 0, none⟩) x189000_29.length co77) y208) := ⟨by (with_reducible repeat (first | apply Kd.R_alloc | apply Kd.R_drewN | apply Kd.R_drew)); exact HQ78.out⟩
        have n1_ : Aside0 (Kd.R (Kd.int .i64) 2 (w76.setCell ⟨go68, (x7_1 : Int).toNat, none⟩ (.int .i64 (wrap64 ((rd x189000_29 x7_1) - (wrap64 (Int.tdiv (wrap64 ((rd l0_0 x7_1) * (rd l1 (ji60)))) 256)))))) w.heap.size (fun k_ => some k_ ≠ (.slice (some ⟨go68, 0, none⟩) x189000_29.length co77 : Value).ownBlock) u189001 x189001_29) := ⟨by (with_reducible repeat (first | apply Kd.R_alloc | apply Kd.R_drewN | apply Kd.R_drew)); exact Kd.R_mono (Kd.R_far (p := ⟨go68, (x7_1 : Int).toNat, none⟩) (Kd.R_mono HO_189001.out (fun k_ hk => (⟨hk, fun e_ => hk (by rw [e_]; rfl)⟩ : _ ∧ k_ ≠ go68))) (fun _ hk => hk.2) (.int .i64 (wrap64 ((rd x189000_29 x7_1) - (wrap64 (Int.tdiv (wrap64 ((rd l0_0 x7_1) * (rd l1 (ji60)))) 256)))))) (fun _ hk => hk.1)⟩
        have n2_ : Aside0 ((w76.setCell ⟨go68, (x7_1 : Int).toNat, none⟩ (.int .i64 (wrap64 ((rd x189000_29 x7_1) - (wrap64 (Int.tdiv (wrap64 ((rd l0_0 x7_1) * (rd l1 (ji60)))) 256)))))).heap[gb174]? = some (.cells #[.slice (some ad189) l0_0.length c0_0, .slice (some ad190) l0_1.length c0_1] 26 (0, 0))) := ⟨by (with_reducible repeat (first | refine blk_drewN ?_ _ | refine blk_drew ?_ | refine blk_alloc ?_ _)); refine blk_far ?_ (by have h_ := Kd.R_ne HO_189000.out BK174.out (by decide); intro e_; exact h_ (by rw [e_]; rfl)) _; exact bT_ BK174⟩
        have n3_ : Aside0 ((w76.setCell ⟨go68, (x7_1 : Int).toNat, none⟩ (.int .i64 (wrap64 ((rd x189000_29 x7_1) - (wrap64 (Int.tdiv (wrap64 ((rd l0_0 x7_1) * (rd l1 (ji60)))) 256)))))).heap[gb175]? = some (.cells #[.slice none 0 0, .slice none 0 0] 26 (0, 0))) := ⟨by (with_reducible repeat (first | refine blk_drewN ?_ _ | refine blk_drew ?_ | refine blk_alloc ?_ _)); refine blk_far ?_ (by have h_ := Kd.R_ne HO_189000.out BK175.out (by decide); intro e_; exact h_ (by rw [e_]; rfl)) _; exact bT_ BK175⟩
        have n4_ : Aside0 ((w76.setCell ⟨go68, (x7_1 : Int).toNat, none⟩ (.int .i64 (wrap64 ((rd x189000_29 x7_1) - (wrap64 (Int.tdiv (wrap64 ((rd l0_0 x7_1) * (rd l1 (ji60)))) 256)))))).heap[gb188]? = some (.cells #[.slice (some ⟨go68, 0, none⟩) x189000_29.length co77, u189001] 26 (0, 0))) := ⟨by (with_reducible repeat (first | refine blk_drewN ?_ _ | refine blk_drew ?_ | refine blk_alloc ?_ _)); refine blk_far ?_ (by have h_ := Kd.R_ne HO_189000.out BK188.out (by decide); intro e_; exact h_ (by rw [e_]; rfl)) _; exact bT_ BK188⟩
        have n5_ : Aside0 (Below w.heap.size w (w76.setCell ⟨go68, (x7_1 : Int).toNat, none⟩ (.int .i64 (wrap64 ((rd x189000_29 x7_1) - (wrap64 (Int.tdiv (wrap64 ((rd l0_0 x7_1) * (rd l1 (ji60)))) 256))))))) := ⟨sABelo_4⟩
        (try clear HO_189000); (try clear HO_189001); (try clear BK174); (try clear BK175); (try clear BK188); (try clear HB)
        generalize (w76.setCell ⟨go68, (x7_1 : Int).toNat, none⟩ (.int .i64 (wrap64 ((rd x189000_29 x7_1) - (wrap64 (Int.tdiv (wrap64 ((rd l0_0 x7_1) * (rd l1 (ji60)))) 256)))))) = w79 at n0_ n1_ n2_ n3_ n4_ n5_ ⊢
        have HO_189000 := n0_; have HO_189001 := n1_; have BK174 := n2_; have BK175 := n3_; have BK188 := n4_; have HB := n5_; clear n0_ n1_ n2_ n3_ n4_ n5_
        replace HO_189000 := Aside0.mk (Kd.R_drew HO_189000.out)
        replace HO_189001 := Aside0.mk (Kd.R_drew HO_189001.out)
        replace BK174 := Aside0.mk (blk_drew BK174.out)
        replace BK175 := Aside0.mk (blk_drew BK175.out)
        replace BK188 := Aside0.mk (blk_drew BK188.out)
        replace HB := Aside0.mk (below_drew1 HB.out)
        have p209 : 0 ≤ ((ji60) : Int) := of_decide_eq_true (by first | (with_reducible assumption) | assumption)
        have q209 : (ji60) < (y208.length : Int) := (by have h_ : ((ji60) : Int) < ((x189000_29.length : Int) : Int) := of_decide_eq_true (by first | (with_reducible assumption) | assumption); first | (have e_ := (Kd.R_reads' HO_189000.out).1; omega) | simpa only [Ny208.out, List.length_set] using h_)
        have ql209 : (((ji60) : Int) < ((x189000_29.length : Int) : Int)) = True := eq_true (of_decide_eq_true (by first | (with_reducible assumption) | assumption))
        obtain ⟨ad209, e209, hx209_0⟩ := Kd.at_int (Kd.R_reads' HO_189000.out).2.2 (ji60) p209 q209
        obtain rfl : (⟨go68, 0, none⟩ : Addr) = ad209 := (by injection e209)
        (first | simp only [add_plain] at hx209_0 | simp only [add_at] at hx209_0 | simp only [Addr.add, Nat.zero_add] at hx209_0 | skip)
        replace p209 := eq_true p209; replace q209 := eq_true q209
        have p70 : 0 ≤ ((ji60) : Int) := of_decide_eq_true (by first | (with_reducible assumption) | assumption)
        have q70 : ((ji60) : Int) < ((x189000_29.length : Int) : Int) := of_decide_eq_true (by first | (with_reducible assumption) | assumption)
        obtain ⟨hx70_0, hf70_0⟩ := Kd.R_celln 0 HO_189000.out ((ji60) : Int) p70 q70
        replace p70 := eq_true p70; replace q70 := eq_true q70
        have HP81 := Kd.R_putn HO_189000.out ((ji60) : Int) (wrap64 ((rd y208 (ji60)) + (wrap64 (Int.tdiv (wrap64 ((rd l0_0 x7_1) * (rd l1 (ji60)))) 256))))
        rw [← Ny210.out] at HP81
        have HQ81 := Aside0.mk HP81; clear HP81
        refine start_ (n := 12) (S := fun w' => w'.cell? ⟨gb188, 0, none⟩ = some (.slice (some ⟨go68, 0, none⟩) x189000_29.length co77) ∧ w'.cell? ⟨gb188, 1, none⟩ = some (u189001) ∧ w'.cell? ⟨go68, ((ji60)).toNat, none⟩ = some (.int .i64 (rd y208 (ji60)))) (ds := [11]) #[false, false, false, false, false, false, false, false, false, false, false, false] (by kernel_rfl) rfl rfl ⟨(blk_cell BK188.out 0).trans rfl, (blk_cell BK188.out 1).trans rfl, hx209_0⟩ (fun hHeld => ?_); refine with_tabW spec_l17Step.tab23 spec_l17Step.bits23 (fun HT_ HW_ => ?_)
        generalize w79.drew = w80 at HO_189000 HO_189001 BK174 BK175 BK188 HB HQ78 HQ81 hf70_0 hx209_0 hx70_0 hHeld ⊢
        refine pT_ 0 (some 155) #[true, false, false, false, false, false, false, false, false, false, false, false] HT_ ?_
        refine pT_ 2 (some 157) #[true, false, true, false, false, false, false, false, false, false, false, false] HT_ ?_
        refine pT_ 3 (some 158) #[true, false, true, true, false, false, false, false, false, false, false, false] HT_ ?_
        refine pT_ 5 (some 160) #[true, false, true, true, false, true, false, false, false, false, false, false] HT_ ?_
        refine pT_ 8 (some 163) #[true, false, true, true, false, true, false, false, true, false, false, false] HT_ ?_
        refine tT_ 1 (some 156) #[true, true, true, true, false, true, false, false, true, false, false, false] HT_ HW_ hHeld ?_ (hy := by rintro w' ⟨s0, s1, s2⟩; go_simp; with_reducible rfl)
        refine tT_ 4 (some 159) #[true, true, true, true, true, true, false, false, true, false, false, false] HT_ HW_ hHeld ?_ (hy := by rintro w' ⟨s0, s1, s2⟩; go_simp; with_reducible rfl)
        refine pT_ 6 (some 161) #[true, true, true, true, true, true, true, false, true, false, false, false] HT_ ?_
        refine tT_ 7 (some 162) #[true, true, true, true, true, true, true, true, true, false, false, false] HT_ HW_ hHeld ?_ (hy := by rintro w' ⟨s0, s1, s2⟩; go_simp; with_reducible rfl)
        refine pT_ 9 (some 164) #[true, true, true, true, true, true, true, true, true, true, false, false] HT_ ?_
        refine pT_ 10 (some 165) #[true, true, true, true, true, true, true, true, true, true, true, false] HT_ ?_
        refine last_ (i := 11) (N := none) #[true, true, true, true, true, true, true, true, true, true, true, true] rfl rfl (one_of HT_.out (by kernel_rfl)) (by decide) (fun K hK => ?_)
        refine skip_ (w1 := ?_) (by rfl) rfl ?_ ?_
        rotate_left
        ·go_simp
         rfl
        refine hK.out _ _ ?_
        clear hK K
        refine done_ (done_of HT_.out (by kernel_rfl)) ?_
        try go_wp2
        have n0_ : Aside0 (Kd.R (Kd.int .i64) 2 (w80.setCell ⟨go68, ((ji60) : Int).toNat, none⟩ (.int .i64 (wrap64 ((rd y208 (ji60)) + (wrap64 (Int.tdiv (wrap64 ((rd l0_0 x7_1) * (rd l1 (ji60)))) 256)))))) w.heap.size (fun k_ => some k_ ≠ (u189001 : Value).ownBlock) (.slice (some ⟨go68, 0, none⟩) x189000_29.length co77) y210) := ⟨by (with_reducible repeat (first | apply Kd.R_alloc | apply Kd.R_drewN | apply Kd.R_drew)); exact HQ81.out⟩
        have n1_ : Aside0 (Kd.R (Kd.int .i64) 2 (w80.setCell ⟨go68, ((ji60) : Int).toNat, none⟩ (.int .i64 (wrap64 ((rd y208 (ji60)) + (wrap64 (Int.tdiv (wrap64 ((rd l0_0 x7_1) * (rd l1 (ji60)))) 256)))))) w.heap.size (fun k_ => some k_ ≠ (.slice (some ⟨go68, 0, none⟩) x189000_29.length co77 : Value).ownBlock) u189001 x189001_29) := ⟨by (with_reducible repeat (first | apply Kd.R_alloc | apply Kd.R_drewN | apply Kd.R_drew)); exact Kd.R_mono (Kd.R_far (p := ⟨go68, ((ji60) : Int).toNat, none⟩) (Kd.R_mono HO_189001.out (fun k_ hk => (⟨hk, fun e_ => hk (by rw [e_]; rfl)⟩ : _ ∧ k_ ≠ go68))) (fun _ hk => hk.2) (.int .i64 (wrap64 ((rd y208 (ji60)) + (wrap64 (Int.tdiv (wrap64 ((rd l0_0 x7_1) * (rd l1 (ji60)))) 256)))))) (fun _ hk => hk.1)⟩
        have n2_ : Aside0 ((w80.setCell ⟨go68, ((ji60) : Int).toNat, none⟩ (.int .i64 (wrap64 ((rd y208 (ji60)) + (wrap64 (Int.tdiv (wrap64 ((rd l0_0 x7_1) * (rd l1 (ji60)))) 256)))))).heap[gb174]? = some (.cells #[.slice (some ad189) l0_0.length c0_0, .slice (some ad190) l0_1.length c0_1] 26 (0, 0))) := ⟨by (with_reducible repeat (first | refine blk_drewN ?_ _ | refine blk_drew ?_ | refine blk_alloc ?_ _)); refine blk_far ?_ (by have h_ := Kd.R_ne HO_189000.out BK174.out (by decide); intro e_; exact h_ (by rw [e_]; rfl)) _; exact bT_ BK174⟩
        have n3_ : Aside0 ((w80.setCell ⟨go68, ((ji60) : Int).toNat, none⟩ (.int .i64 (wrap64 ((rd y208 (ji60)) + (wrap64 (Int.tdiv (wrap64 ((rd l0_0 x7_1) * (rd l1 (ji60)))) 256)))))).heap[gb175]? = some (.cells #[.slice none 0 0, .slice none 0 0] 26 (0, 0))) := ⟨by (with_reducible repeat (first | refine blk_drewN ?_ _ | refine blk_drew ?_ | refine blk_alloc ?_ _)); refine blk_far ?_ (by have h_ := Kd.R_ne HO_189000.out BK175.out (by decide); intro e_; exact h_ (by rw [e_]; rfl)) _; exact bT_ BK175⟩
        have n4_ : Aside0 ((w80.setCell ⟨go68, ((ji60) : Int).toNat, none⟩ (.int .i64 (wrap64 ((rd y208 (ji60)) + (wrap64 (Int.tdiv (wrap64 ((rd l0_0 x7_1) * (rd l1 (ji60)))) 256)))))).heap[gb188]? = some (.cells #[.slice (some ⟨go68, 0, none⟩) x189000_29.length co77, u189001] 26 (0, 0))) := ⟨by (with_reducible repeat (first | refine blk_drewN ?_ _ | refine blk_drew ?_ | refine blk_alloc ?_ _)); refine blk_far ?_ (by have h_ := Kd.R_ne HO_189000.out BK188.out (by decide); intro e_; exact h_ (by rw [e_]; rfl)) _; exact bT_ BK188⟩
        have n5_ : Aside0 (Below w.heap.size w (w80.setCell ⟨go68, ((ji60) : Int).toNat, none⟩ (.int .i64 (wrap64 ((rd y208 (ji60)) + (wrap64 (Int.tdiv (wrap64 ((rd l0_0 x7_1) * (rd l1 (ji60)))) 256))))))) := ⟨sABelo_4⟩
        (try clear HO_189000); (try clear HO_189001); (try clear BK174); (try clear BK175); (try clear BK188); (try clear HB)
        generalize (w80.setCell ⟨go68, ((ji60) : Int).toNat, none⟩ (.int .i64 (wrap64 ((rd y208 (ji60)) + (wrap64 (Int.tdiv (wrap64 ((rd l0_0 x7_1) * (rd l1 (ji60)))) 256)))))) = w82 at n0_ n1_ n2_ n3_ n4_ n5_ ⊢
        have HO_189000 := n0_; have HO_189001 := n1_; have BK174 := n2_; have BK175 := n3_; have BK188 := n4_; have HB := n5_; clear n0_ n1_ n2_ n3_ n4_ n5_
        replace HO_189000 := Aside0.mk (Kd.R_drew HO_189000.out)
        replace HO_189001 := Aside0.mk (Kd.R_drew HO_189001.out)
        replace BK174 := Aside0.mk (blk_drew BK174.out)
        replace BK175 := Aside0.mk (blk_drew BK175.out)
        replace BK188 := Aside0.mk (blk_drew BK188.out)
        replace HB := Aside0.mk (below_drew1 HB.out)
        obtain ⟨Ao84, co84, eo84⟩ := Kd.R_slice HO_189001.out
        (first | subst eo84 | (injection eo84 with f1_ f2_ f3_; have f4_ := f1_.symm; have f5_ := f3_.symm; clear f1_ f2_ f3_; subst f4_; subst f5_))
        have p211 : 0 ≤ (x7_1 : Int) := of_decide_eq_true (by first | (with_reducible assumption) | assumption)
        have q211 : x7_1 < (x189001_29.length : Int) := of_decide_eq_true (by first | (with_reducible assumption) | assumption)
        obtain ⟨ad211, e211, hx211_0⟩ := Kd.at_int (Kd.R_reads' HO_189001.out).2.2 x7_1 p211 q211
        cases e211
        replace p211 := eq_true p211; replace q211 := eq_true q211
        have p72 : 0 ≤ (x7_1 : Int) := of_decide_eq_true (by first | (with_reducible assumption) | assumption)
        have q72 : (x7_1 : Int) < ((x189001_29.length : Int) : Int) := of_decide_eq_true (by first | (with_reducible assumption) | assumption)
        obtain ⟨go72, co72, eo72, gb72, gl72, cl72, HG72⟩ := Kd.R_form HO_189001.out (by omega)
        (first | cases eo72 | (injection eo72 with ea_ en_ ec_; (first | subst ea_ | (injection ea_ with ea_; subst ea_)); subst ec_; clear en_))
        have GB72 := Aside0.mk gb72; have GG72 := Aside0.mk HG72; clear gb72 gl72 HG72
        (first | simp only [add_plain] at hx211_0 | skip)
        obtain ⟨hx72_0, hf72_0⟩ := Kd.R_celln 0 HO_189001.out (x7_1 : Int) p72 q72
        replace p72 := eq_true p72; replace q72 := eq_true q72
        have HP85 := Kd.R_putn HO_189001.out (x7_1 : Int) (wrap64 ((rd x189001_29 x7_1) - t206))
        rw [← Ny212.out] at HP85
        have HQ85 := Aside0.mk HP85; clear HP85
        refine start_ (n := 12) (S := fun w' => w'.cell? ⟨gb188, 0, none⟩ = some (.slice (some ⟨go68, 0, none⟩) x189000_29.length co77) ∧ w'.cell? ⟨gb188, 1, none⟩ = some (.slice (some ⟨go72, 0, none⟩) x189001_29.length co84) ∧ w'.cell? ⟨go72, (x7_1).toNat, none⟩ = some (.int .i64 (rd x189001_29 x7_1))) (ds := [11]) #[false, false, false, false, false, false, false, false, false, false, false, false] (by kernel_rfl) rfl rfl ⟨(blk_cell BK188.out 0).trans rfl, (blk_cell BK188.out 1).trans rfl, hx211_0⟩ (fun hHeld => ?_); refine with_tabW spec_l17Step.tab24 spec_l17Step.bits24 (fun HT_ HW_ => ?_)
        generalize w82.drew = w83 at HO_189000 HO_189001 BK174 BK175 BK188 HB GG72 HQ81 HQ85 hf72_0 hx211_0 hx72_0 hHeld ⊢
        refine pT_ 0 (some 166) #[true, false, false, false, false, false, false, false, false, false, false, false] HT_ ?_
        refine pT_ 2 (some 168) #[true, false, true, false, false, false, false, false, false, false, false, false] HT_ ?_
        refine pT_ 3 (some 169) #[true, false, true, true, false, false, false, false, false, false, false, false] HT_ ?_
        refine pT_ 5 (some 171) #[true, false, true, true, false, true, false, false, false, false, false, false] HT_ ?_
        refine pT_ 8 (some 174) #[true, false, true, true, false, true, false, false, true, false, false, false] HT_ ?_
        refine tT_ 1 (some 167) #[true, true, true, true, false, true, false, false, true, false, false, false] HT_ HW_ hHeld ?_ (hy := by rintro w' ⟨s0, s1, s2⟩; go_simp; with_reducible rfl)
        refine tT_ 4 (some 170) #[true, true, true, true, true, true, false, false, true, false, false, false] HT_ HW_ hHeld ?_ (hy := by rintro w' ⟨s0, s1, s2⟩; go_simp; with_reducible rfl)
        refine pT_ 6 (some 172) #[true, true, true, true, true, true, true, false, true, false, false, false] HT_ ?_
        refine tT_ 7 (some 173) #[true, true, true, true, true, true, true, true, true, false, false, false] HT_ HW_ hHeld ?_ (hy := by rintro w' ⟨s0, s1, s2⟩; go_simp; with_reducible rfl)
        refine pT_ 9 (some 175) #[true, true, true, true, true, true, true, true, true, true, false, false] HT_ ?_
        refine pT_ 10 (some 176) #[true, true, true, true, true, true, true, true, true, true, true, false] HT_ ?_
        refine last_ (i := 11) (N := none) #[true, true, true, true, true, true, true, true, true, true, true, true] rfl rfl (one_of HT_.out (by kernel_rfl)) (by decide) (fun K hK => ?_)
        refine skip_ (w1 := ?_) (by rfl) rfl ?_ ?_
        rotate_left
        ·go_simp
         rfl
        refine hK.out _ _ ?_
        clear hK K
        refine done_ (done_of HT_.out (by kernel_rfl)) ?_
        try go_wp2
        have n0_ : Aside0 (Kd.R (Kd.int .i64) 2 (w83.setCell ⟨go72, (x7_1 : Int).toNat, none⟩ (.int .i64 (wrap64 ((rd x189001_29 x7_1) - t206)))) w.heap.size (fun k_ => some k_ ≠ (.slice (some ⟨go72, 0, none⟩) x189001_29.length co84 : Value).ownBlock) (.slice (some ⟨go68, 0, none⟩) x189000_29.length co77) y210) := ⟨by (with_reducible repeat (first | apply Kd.R_alloc | apply Kd.R_drewN | apply Kd.R_drew)); exact Kd.R_mono (Kd.R_far (p := ⟨go72, (x7_1 : Int).toNat, none⟩) (Kd.R_mono HO_189000.out (fun k_ hk => (⟨hk, fun e_ => hk (by rw [e_]; rfl)⟩ : _ ∧ k_ ≠ go72))) (fun _ hk => hk.2) (.int .i64 (wrap64 ((rd x189001_29 x7_1) - t206)))) (fun _ hk => hk.1)⟩
        have n1_ : Aside0 (Kd.R (Kd.int .i64) 2 (w83.setCell ⟨go72, (x7_1 : Int).toNat, none⟩ (.int .i64 (wrap64 ((rd x189001_29 x7_1) - t206)))) w.heap.size (fun k_ => some k_ ≠ (.slice (some ⟨go68, 0, none⟩) x189000_29.length co77 : Value).ownBlock) (.slice (some ⟨go72, 0, none⟩) x189001_29.length co84) y212) := ⟨by (with_reducible repeat (first | apply Kd.R_alloc | apply Kd.R_drewN | apply Kd.R_drew)); exact HQ85.out⟩
        have n2_ : Aside0 ((w83.setCell ⟨go72, (x7_1 : Int).toNat, none⟩ (.int .i64 (wrap64 ((rd x189001_29 x7_1) - t206)))).heap[gb174]? = some (.cells #[.slice (some ad189) l0_0.length c0_0, .slice (some ad190) l0_1.length c0_1] 26 (0, 0))) := ⟨by (with_reducible repeat (first | refine blk_drewN ?_ _ | refine blk_drew ?_ | refine blk_alloc ?_ _)); refine blk_far ?_ (by have h_ := Kd.R_ne HO_189001.out BK174.out (by decide); intro e_; exact h_ (by rw [e_]; rfl)) _; exact bT_ BK174⟩
        have n3_ : Aside0 ((w83.setCell ⟨go72, (x7_1 : Int).toNat, none⟩ (.int .i64 (wrap64 ((rd x189001_29 x7_1) - t206)))).heap[gb175]? = some (.cells #[.slice none 0 0, .slice none 0 0] 26 (0, 0))) := ⟨by (with_reducible repeat (first | refine blk_drewN ?_ _ | refine blk_drew ?_ | refine blk_alloc ?_ _)); refine blk_far ?_ (by have h_ := Kd.R_ne HO_189001.out BK175.out (by decide); intro e_; exact h_ (by rw [e_]; rfl)) _; exact bT_ BK175⟩
        have n4_ : Aside0 ((w83.setCell ⟨go72, (x7_1 : Int).toNat, none⟩ (.int .i64 (wrap64 ((rd x189001_29 x7_1) - t206)))).heap[gb188]? = some (.cells #[.slice (some ⟨go68, 0, none⟩) x189000_29.length co77, .slice (some ⟨go72, 0, none⟩) x189001_29.length co84] 26 (0, 0))) := ⟨by (with_reducible repeat (first | refine blk_drewN ?_ _ | refine blk_drew ?_ | refine blk_alloc ?_ _)); refine blk_far ?_ (by have h_ := Kd.R_ne HO_189001.out BK188.out (by decide); intro e_; exact h_ (by rw [e_]; rfl)) _; exact bT_ BK188⟩
        have n5_ : Aside0 (Below w.heap.size w (w83.setCell ⟨go72, (x7_1 : Int).toNat, none⟩ (.int .i64 (wrap64 ((rd x189001_29 x7_1) - t206))))) := ⟨sABelo_4⟩
        (try clear HO_189000); (try clear HO_189001); (try clear BK174); (try clear BK175); (try clear BK188); (try clear HB)
        generalize (w83.setCell ⟨go72, (x7_1 : Int).toNat, none⟩ (.int .i64 (wrap64 ((rd x189001_29 x7_1) - t206)))) = w86 at n0_ n1_ n2_ n3_ n4_ n5_ ⊢
        have HO_189000 := n0_; have HO_189001 := n1_; have BK174 := n2_; have BK175 := n3_; have BK188 := n4_; have HB := n5_; clear n0_ n1_ n2_ n3_ n4_ n5_
        replace HO_189000 := Aside0.mk (Kd.R_drew HO_189000.out)
        replace HO_189001 := Aside0.mk (Kd.R_drew HO_189001.out)
        replace BK174 := Aside0.mk (blk_drew BK174.out)
        replace BK175 := Aside0.mk (blk_drew BK175.out)
        replace BK188 := Aside0.mk (blk_drew BK188.out)
        replace HB := Aside0.mk (below_drew1 HB.out)
        have p213 : 0 ≤ ((ji60) : Int) := of_decide_eq_true (by first | (with_reducible assumption) | assumption)
        have q213 : (ji60) < (y212.length : Int) := (by have h_ : ((ji60) : Int) < ((x189001_29.length : Int) : Int) := of_decide_eq_true (by first | (with_reducible assumption) | assumption); first | (have e_ := (Kd.R_reads' HO_189001.out).1; omega) | simpa only [Ny212.out, List.length_set] using h_)
        have ql213 : (((ji60) : Int) < ((x189001_29.length : Int) : Int)) = True := eq_true (of_decide_eq_true (by first | (with_reducible assumption) | assumption))
        obtain ⟨ad213, e213, hx213_0⟩ := Kd.at_int (Kd.R_reads' HO_189001.out).2.2 (ji60) p213 q213
        obtain rfl : (⟨go72, 0, none⟩ : Addr) = ad213 := (by injection e213)
        (first | simp only [add_plain] at hx213_0 | simp only [add_at] at hx213_0 | simp only [Addr.add, Nat.zero_add] at hx213_0 | skip)
        replace p213 := eq_true p213; replace q213 := eq_true q213
        have p74 : 0 ≤ ((ji60) : Int) := of_decide_eq_true (by first | (with_reducible assumption) | assumption)
        have q74 : ((ji60) : Int) < ((x189001_29.length : Int) : Int) := of_decide_eq_true (by first | (with_reducible assumption) | assumption)
        obtain ⟨hx74_0, hf74_0⟩ := Kd.R_celln 0 HO_189001.out ((ji60) : Int) p74 q74
        replace p74 := eq_true p74; replace q74 := eq_true q74
        have HP88 := Kd.R_putn HO_189001.out ((ji60) : Int) (wrap64 ((rd y212 (ji60)) + t206))
        rw [← Ny214.out] at HP88
        have HQ88 := Aside0.mk HP88; clear HP88
        refine start_ (n := 12) (S := fun w' => w'.cell? ⟨gb188, 0, none⟩ = some (.slice (some ⟨go68, 0, none⟩) x189000_29.length co77) ∧ w'.cell? ⟨gb188, 1, none⟩ = some (.slice (some ⟨go72, 0, none⟩) x189001_29.length co84) ∧ w'.cell? ⟨go72, ((ji60)).toNat, none⟩ = some (.int .i64 (rd y212 (ji60)))) (ds := [11]) #[false, false, false, false, false, false, false, false, false, false, false, false] (by kernel_rfl) rfl rfl ⟨(blk_cell BK188.out 0).trans rfl, (blk_cell BK188.out 1).trans rfl, hx213_0⟩ (fun hHeld => ?_); refine with_tabW spec_l17Step.tab25 spec_l17Step.bits25 (fun HT_ HW_ => ?_)
        generalize w86.drew = w87 at HO_189000 HO_189001 BK174 BK175 BK188 HB HQ85 HQ88 hf74_0 hx213_0 hx74_0 hHeld ⊢
        refine pT_ 0 (some 177) #[true, false, false, false, false, false, false, false, false, false, false, false] HT_ ?_
        refine pT_ 2 (some 179) #[true, false, true, false, false, false, false, false, false, false, false, false] HT_ ?_
        refine pT_ 3 (some 180) #[true, false, true, true, false, false, false, false, false, false, false, false] HT_ ?_
        refine pT_ 5 (some 182) #[true, false, true, true, false, true, false, false, false, false, false, false] HT_ ?_
        refine pT_ 8 (some 185) #[true, false, true, true, false, true, false, false, true, false, false, false] HT_ ?_
        refine tT_ 1 (some 178) #[true, true, true, true, false, true, false, false, true, false, false, false] HT_ HW_ hHeld ?_ (hy := by rintro w' ⟨s0, s1, s2⟩; go_simp; with_reducible rfl)
        refine tT_ 4 (some 181) #[true, true, true, true, true, true, false, false, true, false, false, false] HT_ HW_ hHeld ?_ (hy := by rintro w' ⟨s0, s1, s2⟩; go_simp; with_reducible rfl)
        refine pT_ 6 (some 183) #[true, true, true, true, true, true, true, false, true, false, false, false] HT_ ?_
        refine tT_ 7 (some 184) #[true, true, true, true, true, true, true, true, true, false, false, false] HT_ HW_ hHeld ?_ (hy := by rintro w' ⟨s0, s1, s2⟩; go_simp; with_reducible rfl)
        refine pT_ 9 (some 186) #[true, true, true, true, true, true, true, true, true, true, false, false] HT_ ?_
        refine pT_ 10 (some 187) #[true, true, true, true, true, true, true, true, true, true, true, false] HT_ ?_
        refine last_ (i := 11) (N := none) #[true, true, true, true, true, true, true, true, true, true, true, true] rfl rfl (one_of HT_.out (by kernel_rfl)) (by decide) (fun K hK => ?_)
        refine skip_ (w1 := ?_) (by rfl) rfl ?_ ?_
        rotate_left
        ·go_simp
         rfl
        refine hK.out _ _ ?_
        clear hK K
        refine done_ (done_of HT_.out (by kernel_rfl)) ?_
        try go_wp2
        go_roundg kj29
        case measure => have := HK1.out; have := HJ29.out; omega
        case rel => exact ⟨(wrap64 (x7_1 + 1)), (y210), (y214), (.slice (some ⟨go68, 0, none⟩) x189000_29.length co77), (.slice (some ⟨go72, 0, none⟩) x189001_29.length co84), (by first | rfl | (simp; done) | (simp [*]; done)), H', ⟨by have := HK1.out; have := HJ29.out; omega⟩, ⟨by (with_reducible repeat (first | apply Kd.R_alloc | apply Kd.R_drewN | apply Kd.R_drew)); exact Kd.R_mono (Kd.R_far (p := ⟨go72, ((ji60) : Int).toNat, none⟩) (Kd.R_mono HO_189000.out (fun k_ hk => (⟨hk, fun e_ => hk (by rw [e_]; rfl)⟩ : _ ∧ k_ ≠ go72))) (fun _ hk => hk.2) (.int .i64 (wrap64 ((rd y212 (ji60)) + t206)))) (fun _ hk => hk.1)⟩, ⟨by (with_reducible repeat (first | apply Kd.R_alloc | apply Kd.R_drewN | apply Kd.R_drew)); exact HQ88.out⟩, ⟨by (with_reducible repeat (first | refine blk_drewN ?_ _ | refine blk_drew ?_ | refine blk_alloc ?_ _)); refine blk_far ?_ (by have h_ := Kd.R_ne HO_189001.out BK174.out (by decide); intro e_; exact h_ (by rw [e_]; rfl)) _; exact bT_ BK174⟩, ⟨by (with_reducible repeat (first | refine blk_drewN ?_ _ | refine blk_drew ?_ | refine blk_alloc ?_ _)); refine blk_far ?_ (by have h_ := Kd.R_ne HO_189001.out BK175.out (by decide); intro e_; exact h_ (by rw [e_]; rfl)) _; exact bT_ BK175⟩, ⟨by (with_reducible repeat (first | refine blk_drewN ?_ _ | refine blk_drew ?_ | refine blk_alloc ?_ _)); refine blk_far ?_ (by have h_ := Kd.R_ne HO_189001.out BK188.out (by decide); intro e_; exact h_ (by rw [e_]; rfl)) _; exact bT_ BK188⟩, ⟨sABelo_4⟩⟩
       ·rw [if_neg c63] at H
        have c63b0 : decide (0 < (rd l1 (ji60))) = false := decide_eq_false c63
        clear c63; have H' := Aside0.mk H; clear H
        have p203 : 0 ≤ ((ji60) : Int) := of_decide_eq_true (by first | (with_reducible assumption) | assumption)
        have q203 : (ji60) < (l1.length : Int) := of_decide_eq_true (by first | (with_reducible assumption) | assumption)
        obtain ⟨ad203, e203, hx203_0⟩ := Kd.at_int HR1.out (ji60) p203 q203
        obtain rfl : ad191 = ad203 := (by injection e203)
        replace hx203_0 := (HB.out.cell (World.block_lt_of_cell? w _ hx203_0)).trans hx203_0
        replace p203 := eq_true p203; replace q203 := eq_true q203
        go_wp2
        go_roundg kj29
        case measure => have := HK1.out; have := HJ29.out; omega
        case rel => exact ⟨(wrap64 (x7_1 + 1)), (x189000_29), (x189001_29), (u189000), (u189001), (by first | rfl | (simp; done) | (simp [*]; done)), H', ⟨by have := HK1.out; have := HJ29.out; omega⟩, ⟨by (with_reducible repeat (first | apply Kd.R_alloc | apply Kd.R_drewN | apply Kd.R_drew)); exact HO_189000.out⟩, ⟨by (with_reducible repeat (first | apply Kd.R_alloc | apply Kd.R_drewN | apply Kd.R_drew)); exact HO_189001.out⟩, ⟨by exact bT_ BK174⟩, ⟨by exact bT_ BK175⟩, ⟨by exact bT_ BK188⟩, ⟨sABelo_4⟩⟩
   ·rw [if_neg c24] at H
    have c24b0 : decide (x7_1 < (l0_0.length : Int)) = false := decide_eq_false c24
    clear c24
    simp only [Option.some.injEq, Prod.mk.injEq] at H
    obtain ⟨rfl, rfl⟩ := H
    have hnb89 := NB188_174.out; have hnc89 := NB174_188.out; have hnb90 := NB188_175.out; have hnc90 := NB175_188.out
    have hcz91_0 : wr.cell? ⟨gb188, 0, none⟩ = some (u189000) := (blk_cell BK188.out 0).trans rfl
    have hcz91_1 : wr.cell? ⟨gb188, 1, none⟩ = some (u189001) := (blk_cell BK188.out 1).trans rfl
    have hfz91_0 := blk_frozen BK188.out 0; have hfz91_1 := blk_frozen BK188.out 1
    obtain ⟨Ao92, co92, eo92⟩ := Kd.R_slice HO_189000.out
    subst eo92
    have hnb93 := NB175_174.out; have hnc93 := NB174_175.out
    have hcz94_0 : wr.cell? ⟨gb175, 0, none⟩ = some (.slice none 0 0) := (blk_cell BK175.out 0).trans rfl
    have hcz94_1 : wr.cell? ⟨gb175, 1, none⟩ = some (.slice none 0 0) := (blk_cell BK175.out 1).trans rfl
    have hfz94_0 := blk_frozen BK175.out 0; have hfz94_1 := blk_frozen BK175.out 1
    obtain ⟨Ao95, co95, eo95⟩ := Kd.R_slice HO_189001.out
    subst eo95
    go_wp2
    refine bodyPost_ret (results_cell_row rfl _ _ gb175 26 #[.slice Ao92 x189000_1.length co92, .slice Ao95 x189001_1.length co95] (0, 0) _ rfl (by (with_reducible repeat (first | refine blk_drewN ?_ _ | refine blk_drew ?_ | refine blk_alloc ?_ _)); refine blk_put (cs := #[.slice Ao92 x189000_1.length co92, .slice none 0 0]) ?_ 1 _ rfl; (with_reducible repeat (first | refine blk_drewN ?_ _ | refine blk_drew ?_ | refine blk_alloc ?_ _)); refine blk_put (cs := #[.slice none 0 0, .slice none 0 0]) ?_ 0 _ rfl; exact bT_ BK175) Try.underlying26 rfl (by kernel_rfl)) rfl ?_
    exact ⟨_, _, by first | rfl | (simp [errW_none, errW_some] <;> rfl) | (simp [*, errW_none, errW_some] <;> rfl), by (with_reducible repeat (first | apply Kd.R_alloc | apply Kd.R_drewN | apply Kd.R_drew)); exact Kd.R_mono (Kd.R_far (p := ⟨gb175, 1, none⟩) (Kd.R_far (p := ⟨gb175, 0, none⟩) (Kd.R_types HO_189000.out BK175.out (by decide)) (fun _ hk => hk.2) (.slice Ao92 x189000_1.length co92)) (fun _ hk => hk.2) (.slice Ao95 x189001_1.length co95)) (fun _ hk => hk.1), by (with_reducible repeat (first | apply Kd.R_alloc | apply Kd.R_drewN | apply Kd.R_drew)); exact Kd.R_mono (Kd.R_far (p := ⟨gb175, 1, none⟩) (Kd.R_far (p := ⟨gb175, 0, none⟩) (Kd.R_types HO_189001.out BK175.out (by decide)) (fun _ hk => hk.2) (.slice Ao92 x189000_1.length co92)) (fun _ hk => hk.2) (.slice Ao95 x189001_1.length co95)) (fun _ hk => hk.1), sABelo_4⟩

end Go.Proofs.Ytjmpgngndnheaaa.QFnRingKept
