-- Written by a program of this session out of the printer's texts and contracts of its own.
import Derived.Test.YtcjhbmjimjbphaaSq
import Derived.Test.YtcjhbmjimjbphaaQFnDescendsx0
import Derived.Test.YtcjhbmjimjbphaaQFnDescendsx10
import Derived.Test.YtcjhbmjimjbphaaQFnDescendsx11
namespace Go.Proofs.Ytcjhbmjimjbphaa.QFnDescends
open Go.RowKit Go.Proofs.YtcjhbmjimjbphaaW.PrintWords Go.Proofs.YtcjhbmjimjbphaaW.PrintLast Go.Proofs.YtcjhbmjimjbphaaW.PrintMore Go.Proofs.Ytcjhbmjimjbphaa.Sq
attribute [local go_sem] max2_int min2_int max_two min_two max_three min_three max_four min_four   -- for this text's walks alone
set_option linter.unusedVariables false
set_option linter.unusedSimpArgs false
theorem sAKeep_12 {w W : World} {g : Nat} {row : Option Nat} (h : KeepBut w W g row := by repeat (first | (with_reducible first | exact Aside0.out (by assumption) | apply KeepBut.set_ | apply keep_drewN | apply keep_drew | apply keep_alloc | refine keep_far ?_ (Aside0.out (by assumption)) _) | exact Aside0.out (by assumption))) : KeepBut w W g row := h
theorem sABelo_12 {b : Nat} {w W : World} (h : Below b w W := by repeat (first | (with_reducible first | exact Aside0.out (by assumption) | apply below_alloc | apply pw_below_drewN | apply below_drew1 | refine below_set ?_ (IsS77.ge (Aside0.out (by assumption))) | refine below_set ?_ (Aside0.out (by assumption))) | exact Aside0.out (by assumption))) : Below b w W := h
theorem sAIsS77_12 {w0 W : World} {g : Nat} {f0 : List Int} {f1 : Int} (h : IsS77 w0 W g f0 f1 := by repeat (first | (with_reducible first | exact Aside0.out (by assumption) | apply IsS77.alloc | apply IsS77.drewN | apply IsS77.drew | apply IsS77.set_1 | refine IsS77.far ?_ (Aside0.out (by assumption)) _) | exact Aside0.out (by assumption))) : IsS77 w0 W g f0 f1 := h

/-! ### spec_l15Draw: function 44 -/
mutual
def spec_l15Draw.l0 : Nat → List Int → Int → List Int → Int → Int → List Int → List Int → List (S52) → Option (Int × List Int × List Int × (List (S52)) × List Int × Int)
 | 0, _, _, _, _, _, _, _, _ => none
 | k + 1, x5, x6, x1000, x1001, x300000, x300001, x300002, x300003 => if x6 < x300000 then ((spec_l1Rd_below.f x1000 x1001 600).bind fun bt303 => (if x5.length < 17592186044416 then (spec_l15Draw.l0 k (x5 ++ [wrap64 (bt303.1 - 300)]) (wrap64 (x6 + 1)) x1000 bt303.2 x300000 x300001 x300002 x300003) else (none))) else ((spec_l1Rd_below.f x1000 x1001 30).bind fun bt308 => (if bt308.1 = 0 then ((some (([0, 7, wrap64 (x300000 + 1)] : List Int) : List Int)).bind fun y310 => ((spec_l1Rd_below.f x1000 bt308.2 3).bind fun bt313 => (if 0 ≤ bt313.1 then (if bt313.1 < (y310.length : Int) then (some (rd y310 bt313.1, x300001, x300002, x300003, x5, bt313.2)) else (none)) else (none)))) else (if bt308.1 = 1 then ((some (([0, 5, 6] : List Int) : List Int)).bind fun y316 => ((spec_l1Rd_below.f x1000 bt308.2 3).bind fun bt319 => (if 0 ≤ bt319.1 then (if bt319.1 < (y316.length : Int) then (if 0 < (x300002.length : Int) then (some (x300000, x300001, (x300002.set (0 : Int).toNat (rd y316 bt319.1)), x300003, x5, bt319.2)) else (none)) else (none)) else (none)))) else (if bt308.1 = 2 then ((some (([500, 501, (-501)] : List Int) : List Int)).bind fun y323 => ((spec_l1Rd_below.f x1000 bt308.2 3).bind fun bt326 => (if 0 ≤ bt326.1 then (if bt326.1 < (y323.length : Int) then (if 0 < (x300001.length : Int) then (some (x300000, (x300001.set (0 : Int).toNat (rd y323 bt326.1)), x300002, x300003, x5, bt326.2)) else (none)) else (none)) else (none)))) else (if bt308.1 = 3 then ((some (([0, 5, 6] : List Int) : List Int)).bind fun y330 => ((spec_l1Rd_below.f x1000 bt308.2 3).bind fun bt333 => (if 0 ≤ bt333.1 then (if bt333.1 < (y330.length : Int) then (if 0 < (x300003.length : Int) then (some (x300000, x300001, x300002, (x300003.set (0 : Int).toNat (⟨(rd_T52 x300003 0).f0, (rd_T52 x300003 0).f1, rd y330 bt333.1⟩ : S52)), x5, bt333.2)) else (none)) else (none)) else (none)))) else (if bt308.1 = 4 then (if 0 < (x300003.length : Int) then ((some (([5, 6, (-6)] : List Int) : List Int)).bind fun y338 => ((spec_l1Rd_below.f x1000 bt308.2 3).bind fun bt341 => (if 0 ≤ bt341.1 then (if bt341.1 < (y338.length : Int) then (if 0 < (((rd_T52 x300003 0).f0).length : Int) then (some (x300000, x300001, x300002, (x300003.set (0 : Int).toNat (⟨((rd_T52 x300003 0).f0.set (0 : Int).toNat (rd y338 bt341.1)), (rd_T52 x300003 0).f1, (rd_T52 x300003 0).f2⟩ : S52)), x5, bt341.2)) else (none)) else (none)) else (none)))) else (none)) else (if bt308.1 = 5 then ((some (([500, 501, 200000, 200001, (-500)] : List Int) : List Int)).bind fun y345 => ((spec_l1Rd_below.f x1000 bt308.2 5).bind fun bt348 => (if 0 ≤ bt348.1 then (if bt348.1 < (y345.length : Int) then (if 0 < (x5.length : Int) then (some (x300000, x300001, x300002, x300003, (x5.set (0 : Int).toNat (rd y345 bt348.1)), bt348.2)) else (none)) else (none)) else (none)))) else (if bt308.1 = 6 then (if x5.length < 17592186044416 then (some (x300000, x300001, x300002, x300003, (x5 ++ [0]), bt308.2)) else (none)) else (if bt308.1 = 7 then ((spec_l1Rd_below.f x1000 bt308.2 2).bind fun bt355 => (spec_l15Draw.l1 k x5 (wrap64 (20 + bt355.1)) x1000 bt355.2 x300000 x300001 x300002 x300003)) else (some (x300000, x300001, x300002, x300003, x5, bt308.2)))))))))))
def spec_l15Draw.l1 : Nat → List Int → Int → List Int → Int → Int → List Int → List Int → List (S52) → Option (Int × List Int × List Int × (List (S52)) × List Int × Int)
 | 0, _, _, _, _, _, _, _, _ => none
 | k + 1, x5, x7, x1000, x1001, x300000, x300001, x300002, x300003 => if (x300003.length : Int) < x7 then (if 0 < (x300003.length : Int) then (if x300003.length < 3518437208883 then (spec_l15Draw.l1 k x5 x7 x1000 x1001 x300000 x300001 x300002 (x300003 ++ [(⟨(rd_T52 x300003 0).f0, (rd_T52 x300003 0).f1, (rd_T52 x300003 0).f2⟩ : S52)])) else (none)) else (none)) else (some (x300000, x300001, x300002, x300003, x5, x1001))
end
def spec_l15Draw.f (k : Nat) (s0_0 : List Int) (s0_1 : Int) : Option (Int × List Int × List Int × (List (S52)) × List Int × Int) := (spec_l1Rd_problem.f k s0_0 s0_1).bind fun bt288 => (spec_l15Draw.l0 k (([] : List Int)) 0 s0_0 bt288.2.2.2.2 bt288.1 bt288.2.1 bt288.2.2.1 bt288.2.2.2.1)
theorem spec_l15Draw.mono_l : ∀ k, (∀ y0 y1 y2 y3 y4 y5 y6 y7, LeO (spec_l15Draw.l0 k y0 y1 y2 y3 y4 y5 y6 y7) (spec_l15Draw.l0 (k + 1) y0 y1 y2 y3 y4 y5 y6 y7)) ∧ (∀ y0 y1 y2 y3 y4 y5 y6 y7, LeO (spec_l15Draw.l1 k y0 y1 y2 y3 y4 y5 y6 y7) (spec_l15Draw.l1 (k + 1) y0 y1 y2 y3 y4 y5 y6 y7))
 | 0 => ⟨fun _ _ _ _ _ _ _ _ r h => by simp [spec_l15Draw.l0] at h, fun _ _ _ _ _ _ _ _ r h => by simp [spec_l15Draw.l1] at h⟩
 | k + 1 => by
  obtain ⟨ih0, ih1⟩ := spec_l15Draw.mono_l k
  refine ⟨?_, ?_⟩
  intro y0 y1 y2 y3 y4 y5 y6 y7; unfold spec_l15Draw.l0; rotate_left
  intro y0 y1 y2 y3 y4 y5 y6 y7; unfold spec_l15Draw.l1; rotate_left
  all_goals repeat' first
  | (with_reducible exact ih0 _ _ _ _ _ _ _ _)
  | (with_reducible exact ih1 _ _ _ _ _ _ _ _)
  | (with_reducible exact spec_l1Rd_problem.mono _ _ _)
  | (with_reducible exact LeO.refl _)
  | (with_reducible exact LeO.none _)
  | (with_reducible refine LeO.ite ?_ ?_)
  | (with_reducible refine LeO.bind ?_ (fun _ => ?_))
  | exact ih0 _ _ _ _ _ _ _ _
  | exact ih1 _ _ _ _ _ _ _ _
  | exact spec_l1Rd_problem.mono _ _ _
  | exact LeO.none _
  | refine LeO.ite ?_ ?_
  | refine LeO.bind ?_ (fun _ => ?_)
theorem spec_l15Draw.mono : ∀ a0 a1 k, LeO (spec_l15Draw.f k a0 a1) (spec_l15Draw.f (k + 1) a0 a1) := by
 intro a0 a1 k
 obtain ⟨ih0, ih1⟩ := spec_l15Draw.mono_l k
 unfold spec_l15Draw.f
 repeat' first
   | (with_reducible exact ih0 _ _ _ _ _ _ _ _)
   | (with_reducible exact ih1 _ _ _ _ _ _ _ _)
   | (with_reducible exact spec_l1Rd_problem.mono _ _ _)
   | (with_reducible exact LeO.refl _)
   | (with_reducible exact LeO.none _)
   | (with_reducible refine LeO.ite ?_ ?_)
   | (with_reducible refine LeO.bind ?_ (fun _ => ?_))
   | exact ih0 _ _ _ _ _ _ _ _
   | exact ih1 _ _ _ _ _ _ _ _
   | exact spec_l1Rd_problem.mono _ _ _
   | exact LeO.none _
   | refine LeO.ite ?_ ?_
   | refine LeO.bind ?_ (fun _ => ?_)
def spec_l15Draw.T9 : Bool × List (List Nat × List Nat) := (true, [([], []), ([0], [0]), ([1], [1]), ([2], [2]), ([], []), ([4], [4]), ([3, 5], [3, 5]), ([6], [6]), ([0, 1, 2, 3, 4, 5, 6, 7], []), ([8, 7, 5, 0, 1, 2, 3, 4, 5, 6, 7], [7, 8])])
def spec_l15Draw.B9 : List Nat := [0, 1, 3, 7, 0, 16, 63, 127, 255, 511]
theorem spec_l15Draw.tab9 : rtab .any (opsOf Try.f44 9) = spec_l15Draw.T9 := by kernel_rfl
theorem spec_l15Draw.bits9 : waitsOk spec_l15Draw.T9.2 spec_l15Draw.B9 = true := by kernel_rfl
def spec_l15Draw.T11 : Bool × List (List Nat × List Nat) := (true, [([], []), ([0], [0]), ([], []), ([], []), ([3], [3]), ([2, 4], [2, 4]), ([5], [5]), ([1, 0, 1, 2, 3, 4, 5, 6], [1]), ([7, 6, 4, 0, 1, 2, 3, 4, 5, 6], [6, 7])])
def spec_l15Draw.B11 : List Nat := [0, 1, 0, 0, 8, 28, 60, 127, 255]
theorem spec_l15Draw.tab11 : rtab .any (opsOf Try.f44 11) = spec_l15Draw.T11 := by kernel_rfl
theorem spec_l15Draw.bits11 : waitsOk spec_l15Draw.T11.2 spec_l15Draw.B11 = true := by kernel_rfl
def spec_l15Draw.T13 : Bool × List (List Nat × List Nat) := (true, [([], []), ([0], [0]), ([], []), ([], []), ([3], [3]), ([2, 4], [2, 4]), ([5], [5]), ([1, 0, 1, 2, 3, 4, 5, 6], [1]), ([7, 6, 4, 0, 1, 2, 3, 4, 5, 6], [6, 7])])
def spec_l15Draw.B13 : List Nat := [0, 1, 0, 0, 8, 28, 60, 127, 255]
theorem spec_l15Draw.tab13 : rtab .any (opsOf Try.f44 13) = spec_l15Draw.T13 := by kernel_rfl
theorem spec_l15Draw.bits13 : waitsOk spec_l15Draw.T13.2 spec_l15Draw.B13 = true := by kernel_rfl
def spec_l15Draw.T15 : Bool × List (List Nat × List Nat) := (true, [([], []), ([0], [0]), ([], []), ([], []), ([3], [3]), ([2, 4], [2, 4]), ([5], [5]), ([1, 0, 1, 2, 3, 4, 5, 6], [1]), ([7, 0, 1, 2, 3, 4, 5, 6], [7]), ([8, 6, 4, 0, 1, 2, 3, 4, 5, 6], [6, 8])])
def spec_l15Draw.B15 : List Nat := [0, 1, 0, 0, 8, 28, 60, 127, 255, 511]
theorem spec_l15Draw.tab15 : rtab .any (opsOf Try.f44 15) = spec_l15Draw.T15 := by kernel_rfl
theorem spec_l15Draw.bits15 : waitsOk spec_l15Draw.T15.2 spec_l15Draw.B15 = true := by kernel_rfl
def spec_l15Draw.T25 : Bool × List (List Nat × List Nat) := (true, [([], []), ([0], [0]), ([], []), ([2], [2]), ([3], [3]), ([4], [4]), ([5], [5]), ([1, 6], [1, 6]), ([0, 1, 2, 3, 4, 5, 6, 7], []), ([8, 7, 7, 0, 1, 2, 3, 4, 5, 6, 7], [7, 8])])
def spec_l15Draw.B25 : List Nat := [0, 1, 0, 4, 12, 28, 60, 127, 255, 511]
theorem spec_l15Draw.tab25 : rtab .any (opsOf Try.f44 25) = spec_l15Draw.T25 := by kernel_rfl
theorem spec_l15Draw.bits25 : waitsOk spec_l15Draw.T25.2 spec_l15Draw.B25 = true := by kernel_rfl
def spec_l15DrawA.l0 : Nat → List Int → Int → List Int → Int → Int → List Int → List Int → List (S52) → Option (Int × List Int × List Int × (List (S52)) × List Int × Int)
 | 0, _, _, _, _, _, _, _, _ => none
 | k + 1, x5, x6, x1000, x1001, x300000, x300001, x300002, x300003 => if x6 < x300000 then ((spec_l1Rd_below.f x1000 x1001 600).bind fun bt303 => (if x5.length < 17592186044416 then (spec_l15DrawA.l0 k (x5 ++ [wrap64 (bt303.1 - 300)]) (wrap64 (x6 + 1)) x1000 bt303.2 x300000 x300001 x300002 x300003) else (none))) else ((spec_l1Rd_below.f x1000 x1001 30).bind fun bt308 => (if bt308.1 = 0 then ((some (([0, 7, wrap64 (x300000 + 1)] : List Int) : List Int)).bind fun y310 => ((spec_l1Rd_below.f x1000 bt308.2 3).bind fun bt313 => (if 0 ≤ bt313.1 then (if bt313.1 < (y310.length : Int) then (some (rd y310 bt313.1, x300001, x300002, x300003, x5, bt313.2)) else (none)) else (none)))) else (if bt308.1 = 1 then ((some (([0, 5, 6] : List Int) : List Int)).bind fun y316 => ((spec_l1Rd_below.f x1000 bt308.2 3).bind fun bt319 => (if 0 ≤ bt319.1 then (if bt319.1 < (y316.length : Int) then (if 0 < (x300002.length : Int) then (some (x300000, x300001, (x300002.set (0 : Int).toNat (rd y316 bt319.1)), x300003, x5, bt319.2)) else (none)) else (none)) else (none)))) else (if bt308.1 = 2 then ((some (([500, 501, (-501)] : List Int) : List Int)).bind fun y323 => ((spec_l1Rd_below.f x1000 bt308.2 3).bind fun bt326 => (if 0 ≤ bt326.1 then (if bt326.1 < (y323.length : Int) then (if 0 < (x300001.length : Int) then (some (x300000, (x300001.set (0 : Int).toNat (rd y323 bt326.1)), x300002, x300003, x5, bt326.2)) else (none)) else (none)) else (none)))) else (if bt308.1 = 3 then ((some (([0, 5, 6] : List Int) : List Int)).bind fun y330 => ((spec_l1Rd_below.f x1000 bt308.2 3).bind fun bt333 => (if 0 ≤ bt333.1 then (if bt333.1 < (y330.length : Int) then (if 0 < (x300003.length : Int) then (some (x300000, x300001, x300002, (x300003.set (0 : Int).toNat (⟨(rd_T52 x300003 0).f0, (rd_T52 x300003 0).f1, rd y330 bt333.1⟩ : S52)), x5, bt333.2)) else (none)) else (none)) else (none)))) else (if bt308.1 = 4 then (none) else (if bt308.1 = 5 then ((some (([500, 501, 200000, 200001, (-500)] : List Int) : List Int)).bind fun y345 => ((spec_l1Rd_below.f x1000 bt308.2 5).bind fun bt348 => (if 0 ≤ bt348.1 then (if bt348.1 < (y345.length : Int) then (if 0 < (x5.length : Int) then (some (x300000, x300001, x300002, x300003, (x5.set (0 : Int).toNat (rd y345 bt348.1)), bt348.2)) else (none)) else (none)) else (none)))) else (if bt308.1 = 6 then (if x5.length < 17592186044416 then (some (x300000, x300001, x300002, x300003, (x5 ++ [0]), bt308.2)) else (none)) else (if bt308.1 = 7 then ((spec_l1Rd_below.f x1000 bt308.2 2).bind fun bt355 => (spec_l15Draw.l1 k x5 (wrap64 (20 + bt355.1)) x1000 bt355.2 x300000 x300001 x300002 x300003)) else (some (x300000, x300001, x300002, x300003, x5, bt308.2)))))))))))
def spec_l15DrawA.f (k : Nat) (s0_0 : List Int) (s0_1 : Int) : Option (Int × List Int × List Int × (List (S52)) × List Int × Int) := (spec_l1Rd_problem.f k s0_0 s0_1).bind fun bt288 => (spec_l15DrawA.l0 k (([] : List Int)) 0 s0_0 bt288.2.2.2.2 bt288.1 bt288.2.1 bt288.2.2.1 bt288.2.2.2.1)
set_option maxHeartbeats 8000000 in
set_option maxRecDepth 100000 in
theorem spec_l15DrawA.calls (k : Nat) (g : Nat) (s0_0 : List Int) (s0_1 : Int) (r1 : Int) (r2 : List Int) (r3 : List Int) (r4 : List (S52)) (r5 : List Int) (r6 : Int) (w0 w : World) (hI : IsS77 w0 w g s0_0 s0_1) (hB : Below w0.heap.size w0 w) (h : spec_l15DrawA.f k s0_0 s0_1 = some (r1, r2, r3, r4, r5, r6)) :
  Calls Try.prog 44 #[.pointer (some ⟨g, 0, none⟩)] w fun e w' => ∃ v1_ v2_ v3_ v4_ : Value, e = .returned (.tuple #[.agg #[.int .i64 r1, v1_, v2_, v3_], v4_]) ∧ Kd.R (Kd.int .i64) 2 w' w.heap.size (fun k_ => (w.heap.size ≤ k_) ∧ some k_ ≠ (v2_ : Value).ownBlock ∧ some k_ ≠ (v4_ : Value).ownBlock) v1_ r2 ∧ Kd.R (Kd.int .i64) 2 w' w.heap.size (fun k_ => (w.heap.size ≤ k_) ∧ some k_ ≠ (v1_ : Value).ownBlock ∧ some k_ ≠ (v4_ : Value).ownBlock) v2_ r3 ∧ Kd.N k52 52 w' w.heap.size (fun k_ => (w.heap.size ≤ k_) ∧ some k_ ≠ (v1_ : Value).ownBlock ∧ some k_ ≠ (v2_ : Value).ownBlock ∧ some k_ ≠ (v4_ : Value).ownBlock) v3_ r4 ∧ Kd.R (Kd.int .i64) 2 w' w.heap.size (fun k_ => (w.heap.size ≤ k_) ∧ some k_ ≠ (v1_ : Value).ownBlock ∧ some k_ ≠ (v2_ : Value).ownBlock) v4_ r5 ∧ IsS77 w0 w' g s0_0 r6 ∧ Below w0.heap.size w0 w' ∧ KeepBut w w' g none := by
 have hu30 := Try.underlying30; have hu52 := Try.underlying52; have HI0 := Aside0.mk hI
 have HK := Aside0.mk (KeepBut.refl w g none)
 have HL := Aside0.mk hB.size; clear hI; have HW0 := Aside0.mk hB.size; have HB := Aside0.mk hB; clear hB
 have H : ((spec_l1Rd_problem.f k s0_0 s0_1).bind fun bt288 => (spec_l15DrawA.l0 k (([] : List Int)) 0 s0_0 bt288.2.2.2.2 bt288.1 bt288.2.1 bt288.2.2.1 bt288.2.2.2.1)) = some (r1, r2, r3, r4, r5, r6) := h
 clear h; replace H := Option.bind_eq_some_iff.mp H
 obtain ⟨⟨t288, t289, t292, t295, t298⟩, A20, H⟩ := H
 replace H : (spec_l15DrawA.l0 k (([] : List Int)) 0 s0_0 t298 t288 t289 t292 t295) = some (r1, r2, r3, r4, r5, r6) := H
 have A2 := Aside0.mk A20; clear A20
 obtain ⟨y300, hy300⟩ : ∃ y_ : List Int, y_ = (([] : List Int)) := ⟨_, rfl⟩
 replace H : (spec_l15DrawA.l0 k y300 0 s0_0 t298 t288 t289 t292 t295) = some (r1, r2, r3, r4, r5, r6) := by first | (rw [hy300]; with_reducible exact H) | (have H2_ := (Option.bind_some _ _).symm.trans H; rw [hy300]; with_reducible exact H2_) | (have H2_ := (Option.bind_some _ _).symm.trans H; with_reducible exact H2_) | with_reducible exact H | (rw [hy300]; exact H) | exact H
 have Ny300 := Aside0.mk hy300; clear hy300; have H' := Aside0.mk H; clear H
 go_enter Try.func44, Try.ntmps44
 go_wp2_with (first | ((with_reducible refine gate_dst (N := 2) rfl ?_); refine box_event ?hg (N := 2) ?hd (cs := #[.int .i64 0, .slice none 0 0, .slice none 0 0, .slice none 0 0]) (t := 30) ?hr ?_; (case hd => rfl); (case hg => rfl); (case hr => first | (go_simp; done) | (go_simp; rfl)); intro gb287 hg w3 hbox hb; replace HB := Aside0.mk (below_step sABelo_12 hb); have BK287 := Aside0.mk (hbox); have GW287 := Aside0.mk ((by rw [hg]; exact (keep_size (w := w) (g := g) (row := none) sAKeep_12) : w.heap.size ≤ gb287)); have GE287 := Aside0.mk ((Nat.le_trans HW0.out (by rw [hg]; exact (keep_size (w := w) (g := g) (row := none) sAKeep_12) : w.heap.size ≤ gb287) : w0.heap.size ≤ gb287)); replace HK := Aside0.mk (KeepBut.trans (w := w) (row := none) sAKeep_12 (KeepBut.of_below hb g none) (.inl rfl)); have NB0_287 := Aside0.mk ((by rw [hg]; exact Nat.ne_of_lt (IsS77.lt (show IsS77 w0 _ g s0_0 s0_1 from sAIsS77_12)) : g ≠ gb287)); have NB287_0 := Aside0.mk ((by rw [hg]; exact Nat.ne_of_gt (IsS77.lt (show IsS77 w0 _ g s0_0 s0_1 from sAIsS77_12)) : gb287 ≠ g)); replace HI0 := Aside0.mk (IsS77.below sAIsS77_12 hb); clear hb hbox hg) | ((with_reducible refine gate_callee (f := 51) rfl ?_); refine gL_ (some 9) Try.func51 #[.pointer (some ⟨g, 0, none⟩)] ?_; (with_reducible refine (spec_l1Rd_problem.calls k g s0_0 s0_1 t288 t289 t292 t295 t298 w0 _ ?side1 ?side2 A2.out).mono ?_); (case side1 => repeat (first | (with_reducible first | exact HI0.out | apply IsS77.alloc | apply IsS77.drewN | apply IsS77.drew | apply IsS77.set_1 | refine IsS77.far ?_ NB0_287.out _) | exact HI0.out)); (case side2 => repeat (first | (with_reducible first | exact HB.out | apply below_alloc | apply pw_below_drewN | apply below_drew1 | refine below_set ?_ (IsS77.ge HI0.out) | refine below_set ?_ GE287.out) | exact HB.out)); rintro e w4 ⟨v290, v293, v296, rfl, ho0, ho1, ho2, hi, hb, hk⟩; refine ⟨_, rfl, ?_⟩; have HO291 := Aside0.mk (Kd.R_lower (Kd.R_newM (M := fun k_ => (w.heap.size ≤ k_)) ho0 (keep_size (w := w) (g := g) (row := none) sAKeep_12) (fun k_ h_ => h_)) (keep_size (w := w) (g := g) (row := none) sAKeep_12)); have HO294 := Aside0.mk (Kd.R_lower (Kd.R_newM (M := fun k_ => (w.heap.size ≤ k_)) ho1 (keep_size (w := w) (g := g) (row := none) sAKeep_12) (fun k_ h_ => h_)) (keep_size (w := w) (g := g) (row := none) sAKeep_12)); have HO297 := Aside0.mk (Kd.N_lower (Kd.N_mono (ok' := fun k_ => (w.heap.size ≤ k_) ∧ some k_ ≠ (v290 : Value).ownBlock ∧ some k_ ≠ (v293 : Value).ownBlock ∧ k_ ≠ gb287 ∧ k_ ≠ g) (Kd.S_N (Kd.S_bound ho2)) (fun k_ hk_ => ⟨(Nat.le_trans (keep_size (w := w) (g := g) (row := none) sAKeep_12) hk_.2.1), hk_.1.1, hk_.1.2, (Kd.freshB (g := gb287) (o := .cells #[.int .i64 0, .slice none 0 0, .slice none 0 0, .slice none 0 0] 30 (0, 0)) (bT_ BK287) k_ hk_.2.1), (IsS77.fresh sAIsS77_12 k_ hk_.2.1)⟩)) (keep_size (w := w) (g := g) (row := none) sAKeep_12)); replace BK287 := Aside0.mk (KeepBut.blk hk (g' := gb287) (o := .cells #[.int .i64 0, .slice none 0 0, .slice none 0 0, .slice none 0 0] 30 (0, 0)) (bT_ BK287) NB287_0.out (by simp)); replace HK := Aside0.mk (KeepBut.trans (w := w) (row := none) sAKeep_12 hk (.inl rfl)); replace HB := Aside0.mk (hb); replace HI0 := Aside0.mk (hi); (try clear hb); (try clear hk); (try clear hi); (try clear ho0); (try clear ho1); (try clear ho2)) | ((with_reducible refine gate_dst (N := 4) rfl ?_); refine box_event ?hg (N := 4) ?hd (cs := #[.int .i64 0, .slice none 0 0, .slice none 0 0, .slice none 0 0]) (t := 30) ?hr ?_; (case hd => rfl); (case hg => rfl); (case hr => first | (go_simp; done) | (go_simp; rfl)); intro gb299 hg w5 hbox hb; replace HO291 := rB_ HO291 hb; replace HO294 := rB_ HO294 hb; replace HO297 := Aside0.mk (Kd.N_below (Kd.N_elderB (by (with_reducible repeat (first | apply Kd.N_alloc | apply Kd.N_drewN | apply Kd.N_drew)); exact HO297.out) gb299 (Nat.le_of_eq hg.symm)) hb); replace HB := Aside0.mk (below_step sABelo_12 hb); have BK299 := Aside0.mk (hbox); have GW299 := Aside0.mk ((by rw [hg]; exact (keep_size (w := w) (g := g) (row := none) sAKeep_12) : w.heap.size ≤ gb299)); have GE299 := Aside0.mk ((Nat.le_trans HW0.out (by rw [hg]; exact (keep_size (w := w) (g := g) (row := none) sAKeep_12) : w.heap.size ≤ gb299) : w0.heap.size ≤ gb299)); replace HK := Aside0.mk (KeepBut.trans (w := w) (row := none) sAKeep_12 (KeepBut.of_below hb g none) (.inl rfl)); have NB287_299 := nL_ BK287 hg; have NB299_287 := nG_ BK287 hg; replace BK287 := bB_ BK287 hb; have NB0_299 := Aside0.mk ((by rw [hg]; exact Nat.ne_of_lt (IsS77.lt (show IsS77 w0 _ g s0_0 t298 from sAIsS77_12)) : g ≠ gb299)); have NB299_0 := Aside0.mk ((by rw [hg]; exact Nat.ne_of_gt (IsS77.lt (show IsS77 w0 _ g s0_0 t298 from sAIsS77_12)) : gb299 ≠ g)); replace HI0 := Aside0.mk (IsS77.below sAIsS77_12 hb); clear hb hbox hg; have hnb6 := NB299_287.out; have hnc6 := NB287_299.out; have hnb7 := NB299_0.out; have hnc7 := NB0_299.out; obtain ⟨hcz8_0, hcz8_1, hcz8_2, hcz8_3, hfz8_0, hfz8_1, hfz8_2, hfz8_3⟩ := cf4_ BK299; obtain ⟨Ao9, co9, eo9⟩ := Kd.R_slice HO291.out; subst eo9; obtain ⟨Ao10, co10, eo10⟩ := Kd.R_slice HO294.out; subst eo10; obtain ⟨Ao11, co11, eo11⟩ := Kd.N_slice HO297.out; subst eo11) | ((with_reducible refine gate_dst (N := 10) rfl ?_); refine Kd.R_lit (Kd.int .i64) _ 2 ?hg (N := 10) ?hd (xs := ([] : List Int)) (inner := []) (ok := fun _ => True) (okp := fun _ => True) ?hr ?hp (fun _ hk => hk) trivial (Below.refl _ _) (Nat.le_refl _) (by simp) ?_; (case hd => rfl); (case hg => rfl); (case hr => first | (go_simp; done) | (go_simp; rfl)); (case hp => exact (Reps.none _ _)); intro v301 w12 ho13 hb hg_ hnew_; clear hg_ hnew_; (first | rw [← Ny300.out] at ho13 | (simp only [Int.reduceToNat] at ho13; rw [← Ny300.out] at ho13)); replace HO297 := Aside0.mk (Kd.N_elder' (by (with_reducible repeat (first | apply Kd.N_alloc | apply Kd.N_drewN | apply Kd.N_drew)); exact (Kd.N_mono (Kd.N_far (p := ⟨gb299, 3, none⟩) (Kd.N_far (p := ⟨gb299, 2, none⟩) (Kd.N_far (p := ⟨gb299, 1, none⟩) (Kd.N_far (p := ⟨gb299, 0, none⟩) (Kd.N_mono HO297.out (fun k_ hk => (⟨hk, hk.2⟩ : _ ∧ k_ ≠ gb299))) (fun _ hk => hk.2) (.int .i64 t288)) (fun _ hk => hk.2) (.slice Ao9 t289.length co9)) (fun _ hk => hk.2) (.slice Ao10 t292.length co10)) (fun _ hk => hk.2) (.slice Ao11 t295.length co11)) (fun _ h_ => h_.1))) (Kd.R_base ho13) hb); have HO302 := Aside0.mk (Kd.R_lower (Kd.R_new' (Kd.R_new' (Kd.R_newM (M := fun k_ => (w.heap.size ≤ k_)) ho13 (keep_size (w := w) (g := g) (row := none) sAKeep_12) (fun k_ h_ => h_)) (rLt_ HO291)) (rLt_ HO294)) (keep_size (w := w) (g := g) (row := none) sAKeep_12)); replace HO291 := rEF_ HO291 BK299 ho13 hb; replace HO294 := rEF_ HO294 BK299 ho13 hb; replace BK287 := bBF_ BK287 NB287_299 hb; replace BK299 := Aside0.mk (blk_below (g := gb299) (o := .cells #[.int .i64 t288, .slice Ao9 t289.length co9, .slice Ao10 t292.length co10, .slice Ao11 t295.length co11] 30 (0, 0)) (bP_ BK299) hb); replace HK := Aside0.mk (KeepBut.trans (w := w) (row := none) sAKeep_12 (KeepBut.of_below hb g none) (.inl rfl)); replace HB := Aside0.mk (below_step sABelo_12 hb); replace HI0 := Aside0.mk (IsS77.below (show IsS77 w0 ((((w5.setCell ⟨gb299, 0, none⟩ (.int .i64 t288)).setCell ⟨gb299, 1, none⟩ (.slice Ao9 t289.length co9)).setCell ⟨gb299, 2, none⟩ (.slice Ao10 t292.length co10)).setCell ⟨gb299, 3, none⟩ (.slice Ao11 t295.length co11)) g s0_0 t298 from sAIsS77_12) hb); clear hb ho13))
 go_loopg [5, 6] k (fun kq v5 v6 w' => ∃ (x5_1 : List Int) (x6_1 : Int) (x1001_1 : Int), v6 = .int .i64 x6_1 ∧ Aside0 (spec_l15DrawA.l0 kq x5_1 x6_1 s0_0 x1001_1 t288 t289 t292 t295 = some (r1, r2, r3, r4, r5, r6)) ∧ Aside0 (kq ≤ k) ∧ Aside0 (Kd.R (Kd.int .i64) 2 w' w.heap.size (fun k_ => (w.heap.size ≤ k_) ∧ some k_ ≠ ((.slice Ao9 t289.length co9) : Value).ownBlock ∧ some k_ ≠ ((.slice Ao10 t292.length co10) : Value).ownBlock) v5 x5_1) ∧ Aside0 (Kd.R (Kd.int .i64) 2 w' w.heap.size (fun k_ => (w.heap.size ≤ k_) ∧ some k_ ≠ (v5 : Value).ownBlock ∧ some k_ ≠ ((.slice Ao10 t292.length co10) : Value).ownBlock) (.slice Ao9 t289.length co9) t289) ∧ Aside0 (Kd.R (Kd.int .i64) 2 w' w.heap.size (fun k_ => (w.heap.size ≤ k_) ∧ some k_ ≠ (v5 : Value).ownBlock ∧ some k_ ≠ ((.slice Ao9 t289.length co9) : Value).ownBlock) (.slice Ao10 t292.length co10) t292) ∧ Aside0 (Kd.N k52 52 w' w.heap.size (fun k_ => (w.heap.size ≤ k_) ∧ some k_ ≠ (v5 : Value).ownBlock ∧ some k_ ≠ ((.slice Ao9 t289.length co9) : Value).ownBlock ∧ some k_ ≠ ((.slice Ao10 t292.length co10) : Value).ownBlock ∧ k_ ≠ gb287 ∧ k_ ≠ gb299 ∧ k_ ≠ g) (.slice Ao11 t295.length co11) t295) ∧ Aside0 (w'.heap[gb287]? = some (.cells #[.int .i64 0, (.slice none 0 0), (.slice none 0 0), (.slice none 0 0)] 30 (0, 0))) ∧ Aside0 (w'.heap[gb299]? = some (.cells #[.int .i64 t288, (.slice Ao9 t289.length co9), (.slice Ao10 t292.length co10), (.slice Ao11 t295.length co11)] 30 (0, 0))) ∧ Aside0 (IsS77 w0 w' g s0_0 x1001_1) ∧ Aside0 (KeepBut w w' g none) ∧ Aside0 (Below w0.heap.size w0 w'))
 case atStart => exact ⟨(y300), (0), (t298), (by first | rfl | (simp; done) | (simp [*]; done)), H', ⟨Nat.le_refl _⟩, ⟨rM2_ HO302⟩, ⟨rM2_ HO291⟩, ⟨rM2_ HO294⟩, ⟨by (with_reducible repeat (first | apply Kd.N_alloc | apply Kd.N_drewN | apply Kd.N_drew)); exact Kd.N_mono HO297.out (fun _ hk => ⟨hk.1.1.1, ⟨hk.2, ⟨hk.1.1.2.1, ⟨hk.1.1.2.2.1, ⟨hk.1.1.2.2.2.1, ⟨hk.1.2, hk.1.1.2.2.2.2⟩⟩⟩⟩⟩⟩)⟩, ⟨bT_ BK287⟩, ⟨bT_ BK299⟩, ⟨sAIsS77_12⟩, ⟨sAKeep_12⟩, ⟨sABelo_12⟩⟩
 case round =>
  clear H'; (try clear hcz8_0); (try clear hcz8_1); (try clear hcz8_2); (try clear hcz8_3); (try clear hfz8_0); (try clear hfz8_1); (try clear hfz8_2); (try clear hfz8_3)
  obtain ⟨x5_1, x6_1, x1001_1, rfl, HA, HK1, HO_5, HO_300001, HO_300002, HO_300003, BK287, BK299, HI0, HK, HB⟩ := hrel
  cases gk with
  | zero => exact absurd HA.out (by simp [spec_l15DrawA.l0])
  | succ k1 =>
   have H := HA.out; clear HA
   simp only [spec_l15DrawA.l0] at H
   by_cases c14 : x6_1 < t288
   ·rw [if_pos c14] at H
    have c14b0 := decide_eq_true c14
    clear c14; replace H := Option.bind_eq_some_iff.mp H
    obtain ⟨⟨t303, t304⟩, A150, H⟩ := H
    replace H : (if x5_1.length < 17592186044416 then (spec_l15DrawA.l0 k1 (x5_1 ++ [wrap64 (t303 - 300)]) (wrap64 (x6_1 + 1)) s0_0 t304 t288 t289 t292 t295) else (none)) = some (r1, r2, r3, r4, r5, r6) := H
    have A15 := Aside0.mk A150; clear A150
    obtain ⟨c16, H⟩ := ifS_ H
    have LMc16 := Aside0.mk c16; clear c16
    obtain ⟨y305, hy305⟩ : ∃ y_ : List Int, y_ = (x5_1 ++ [wrap64 (t303 - 300)]) := ⟨_, rfl⟩
    replace H : (spec_l15DrawA.l0 k1 y305 (wrap64 (x6_1 + 1)) s0_0 t304 t288 t289 t292 t295) = some (r1, r2, r3, r4, r5, r6) := by first | (rw [hy305]; with_reducible exact H) | (have H2_ := (Option.bind_some _ _).symm.trans H; rw [hy305]; with_reducible exact H2_) | (have H2_ := (Option.bind_some _ _).symm.trans H; with_reducible exact H2_) | with_reducible exact H | (rw [hy305]; exact H) | exact H
    have Ny305 := Aside0.mk hy305; clear hy305; have H' := Aside0.mk H; clear H; have hnb17 := NB299_287.out; have hnc17 := NB287_299.out; have hnb18 := NB299_0.out; have hnc18 := NB0_299.out
    obtain ⟨hcz19_0, hcz19_1, hcz19_2, hcz19_3, hfz19_0, hfz19_1, hfz19_2, hfz19_3⟩ := cf4_ BK299
    go_wp2_with (first | ((with_reducible refine gate_callee (f := 45) rfl ?_); refine gL_ (some 19) Try.func45 #[.pointer (some ⟨g, 0, none⟩), .int .i64 600] ?_; (with_reducible refine (spec_l1Rd_below.calls g s0_0 x1001_1 600 t303 t304 w0 _ ?side1 ?side2 A15.out).mono ?_); (case side1 => repeat (first | (with_reducible first | exact HI0.out | apply IsS77.alloc | apply IsS77.drewN | apply IsS77.drew | apply IsS77.set_1 | refine IsS77.far ?_ NB0_287.out _ | refine IsS77.far ?_ NB0_299.out _) | exact HI0.out)); (case side2 => repeat (first | (with_reducible first | exact HB.out | apply below_alloc | apply pw_below_drewN | apply below_drew1 | refine below_set ?_ (IsS77.ge HI0.out) | refine below_set ?_ GE287.out | refine below_set ?_ GE299.out) | exact HB.out)); rintro e w20 ⟨rfl, hi, hb, hk⟩; refine ⟨_, rfl, ?_⟩; replace HO_5 := Aside0.mk (Kd.R_mono (Kd.R_keep (IsS77.apart (show IsS77 w0 _ g s0_0 x1001_1 from sAIsS77_12) (rT_ HO_5) (by decide)) hk (fun _ h => h.2)) (fun _ h => h.1)); replace HO_300001 := Aside0.mk (Kd.R_mono (Kd.R_keep (IsS77.apart (show IsS77 w0 _ g s0_0 x1001_1 from sAIsS77_12) (rT_ HO_300001) (by decide)) hk (fun _ h => h.2)) (fun _ h => h.1)); replace HO_300002 := Aside0.mk (Kd.R_mono (Kd.R_keep (IsS77.apart (show IsS77 w0 _ g s0_0 x1001_1 from sAIsS77_12) (rT_ HO_300002) (by decide)) hk (fun _ h => h.2)) (fun _ h => h.1)); replace HO_300003 := Aside0.mk (Kd.N_mono (Kd.N_keep (Kd.N_mono (ok := fun k_ => (((w.heap.size ≤ k_)) ∧ (some k_ ≠ (u5 : Value).ownBlock ∧ (some k_ ≠ (.slice Ao9 t289.length co9 : Value).ownBlock ∧ (some k_ ≠ (.slice Ao10 t292.length co10 : Value).ownBlock ∧ (k_ ≠ gb287 ∧ (k_ ≠ gb299 ∧ k_ ≠ g))))))) (by (with_reducible repeat (first | apply Kd.N_alloc | apply Kd.N_drewN | apply Kd.N_drew)); exact HO_300003.out) (fun k_ hk_ => (⟨hk_, hk_.2.2.2.2.2.2⟩ : _ ∧ k_ ≠ g))) hk (fun _ h => h.2)) (fun _ h => h.1)); replace BK287 := Aside0.mk (KeepBut.blk hk (g' := gb287) (o := .cells #[.int .i64 0, .slice none 0 0, .slice none 0 0, .slice none 0 0] 30 (0, 0)) (bT_ BK287) NB287_0.out (by simp)); replace BK299 := Aside0.mk (KeepBut.blk hk (g' := gb299) (o := .cells #[.int .i64 t288, .slice Ao9 t289.length co9, .slice Ao10 t292.length co10, .slice Ao11 t295.length co11] 30 (0, 0)) (bT_ BK299) NB299_0.out (by simp)); replace HK := Aside0.mk (KeepBut.trans (w := w) (row := none) sAKeep_12 hk (.inl rfl)); replace HB := Aside0.mk (hb); replace HI0 := Aside0.mk (hi); (try clear hb); (try clear hk); (try clear hi)) | ((with_reducible refine gate_builtin (b := .append) (xs := #[.tmp 17, .tmp 21]) rfl ?_); at_builtin; refine Kd.R_append (Kd.int .i64) w.heap.size rfl (.tmp 17) (.tmp 21) 22 2 (.int .i64 0) 8 rfl Try.underlying22 info2 rfl (by decide) (by omega) u5 x5_1 (wrap64 (t303 - 300)) [.int .i64 (wrap64 (t303 - 300))] (fun k_ => (w.heap.size ≤ k_) ∧ some k_ ≠ (.slice Ao9 t289.length co9 : Value).ownBlock ∧ some k_ ≠ (.slice Ao10 t292.length co10 : Value).ownBlock) (fun _ => False) rfl rfl ?aP (fun _ hk => hk.elim) ?aF ?aO (Below.refl _ _) ?aS ?aL ?_; (case aP => exact rfl); (case aF => exact (fun k_ hk => ⟨(Nat.le_trans (keep_size (w := w) (g := g) (row := none) sAKeep_12) hk), Kd.fresh' (rLt_ HO_300001) k_ hk, Kd.fresh' (rLt_ HO_300002) k_ hk⟩)); (case aO => exact (rT_ HO_5)); (case aS => exact (keep_size (w := w) (g := g) (row := none) sAKeep_12)); (case aL => have := LMc16.out; omega); intro v306 w21 ho hb hg hat; rw [← Ny305.out] at ho; replace HO_300001 := Aside0.mk (Kd.R_after (ok := (fun k_ => (w.heap.size ≤ k_) ∧ some k_ ≠ (.slice Ao10 t292.length co10 : Value).ownBlock)) (rM_ HO_300001) hg hat); replace HO_300002 := Aside0.mk (Kd.R_after (ok := (fun k_ => (w.heap.size ≤ k_) ∧ some k_ ≠ (.slice Ao9 t289.length co9 : Value).ownBlock)) (rM_ HO_300002) hg hat); replace HO_300003 := Aside0.mk (Kd.N_afterv (ok := (fun k_ => (w.heap.size ≤ k_) ∧ some k_ ≠ (.slice Ao9 t289.length co9 : Value).ownBlock ∧ some k_ ≠ (.slice Ao10 t292.length co10 : Value).ownBlock ∧ k_ ≠ gb287 ∧ k_ ≠ gb299 ∧ k_ ≠ g)) (by (with_reducible repeat (first | apply Kd.N_alloc | apply Kd.N_drewN | apply Kd.N_drew)); exact Kd.N_mono HO_300003.out (fun _ hk => ⟨⟨hk.1, ⟨hk.2.2.1, ⟨hk.2.2.2.1, ⟨hk.2.2.2.2.1, ⟨hk.2.2.2.2.2.1, hk.2.2.2.2.2.2⟩⟩⟩⟩⟩, hk.2.1⟩)) hg hat); replace BK287 := Aside0.mk (blk_grown (g := gb287) (o := .cells #[.int .i64 0, .slice none 0 0, .slice none 0 0, .slice none 0 0] 30 (0, 0)) (bT_ BK287) hg (Kd.R_ne HO_5.out BK287.out (by decide))); replace BK299 := Aside0.mk (blk_grown (g := gb299) (o := .cells #[.int .i64 t288, .slice Ao9 t289.length co9, .slice Ao10 t292.length co10, .slice Ao11 t295.length co11] 30 (0, 0)) (bT_ BK299) hg (Kd.R_ne HO_5.out BK299.out (by decide))); replace HB := Aside0.mk (below_weaken sABelo_12 HL.out hb); replace HI0 := Aside0.mk (IsS77.grown sAIsS77_12 hg (IsS77.own_ne HI0.out HO_5.out (by decide))); replace HK := Aside0.mk (KeepBut.trans (w := w) (row := none) sAKeep_12 (KeepBut.of_grown hg g) (Kd.R_base2 HO_5.out)); have HO307 := Aside0.mk (ho); clear HO_5; clear ho hb hg hat))
    go_roundg k1
    case measure => have := HK1.out; omega
    case rel => exact ⟨(y305), (wrap64 (x6_1 + 1)), (t304), (by first | rfl | (simp; done) | (simp [*]; done)), H', ⟨by have := HK1.out; omega⟩, ⟨rT_ HO307⟩, ⟨rM2_ HO_300001⟩, ⟨rM2_ HO_300002⟩, ⟨by (with_reducible repeat (first | apply Kd.N_alloc | apply Kd.N_drewN | apply Kd.N_drew)); exact Kd.N_mono HO_300003.out (fun _ hk => ⟨hk.1.1, ⟨hk.2, ⟨hk.1.2.1, ⟨hk.1.2.2.1, ⟨hk.1.2.2.2.1, ⟨hk.1.2.2.2.2.1, hk.1.2.2.2.2.2⟩⟩⟩⟩⟩⟩)⟩, ⟨bT_ BK287⟩, ⟨bT_ BK299⟩, ⟨sAIsS77_12⟩, ⟨sAKeep_12⟩, ⟨sABelo_12⟩⟩
   ·rw [if_neg c14] at H
    have c14b0 := decide_eq_false c14
    clear c14; replace H := Option.bind_eq_some_iff.mp H
    obtain ⟨⟨t308, t309⟩, A220, H⟩ := H
    dsimp only at H
    have A22 := Aside0.mk A220; clear A220
    by_cases c23 : t308 = 0
    ·rw [if_pos c23] at H
     have c23b0 := beq_iff_eq.mpr c23
     have c23b1 := bne_eq_false_iff_eq.mpr c23
     clear c23
     obtain ⟨y310, hy310⟩ : ∃ y_ : List Int, y_ = (([0, 7, wrap64 (t288 + 1)] : List Int)) := ⟨_, rfl⟩
     replace H : ((spec_l1Rd_below.f s0_0 t309 3).bind fun bt313 => (if 0 ≤ bt313.1 then (if bt313.1 < (y310.length : Int) then (some (rd y310 bt313.1, t289, t292, t295, x5_1, bt313.2)) else (none)) else (none))) = some (r1, r2, r3, r4, r5, r6) := by first | (rw [hy310]; with_reducible exact H) | (have H2_ := (Option.bind_some _ _).symm.trans H; rw [hy310]; with_reducible exact H2_) | (have H2_ := (Option.bind_some _ _).symm.trans H; with_reducible exact H2_) | with_reducible exact H | (rw [hy310]; exact H) | exact H
     have Ny310 := Aside0.mk hy310; clear hy310; replace H := Option.bind_eq_some_iff.mp H
     obtain ⟨⟨t313, t314⟩, A240, H⟩ := H
     replace H : (if 0 ≤ t313 then (if t313 < (y310.length : Int) then (some (rd y310 t313, t289, t292, t295, x5_1, t314)) else (none)) else (none)) = some (r1, r2, r3, r4, r5, r6) := H
     have A24 := Aside0.mk A240; clear A240
     obtain ⟨c25, H⟩ := ifS_ H
     have c25b0 : decide (0 ≤ t313) = true := decide_eq_true c25
     clear c25
     obtain ⟨c26, H⟩ := ifS_ H
     have c26b0 : decide (t313 < (y310.length : Int)) = true := decide_eq_true c26
     clear c26
     simp only [Option.some.injEq, Prod.mk.injEq] at H
     obtain ⟨rfl, rfl, rfl, rfl, rfl, rfl⟩ := H
     have hnb27 := NB299_287.out; have hnc27 := NB287_299.out; have hnb28 := NB299_0.out; have hnc28 := NB0_299.out
     obtain ⟨hcz29_0, hcz29_1, hcz29_2, hcz29_3, hfz29_0, hfz29_1, hfz29_2, hfz29_3⟩ := cf4_ BK299
     try go_wp2_with (first | ((with_reducible refine gate_callee (f := 45) rfl ?_); refine gL_ (some 24) Try.func45 #[.pointer (some ⟨g, 0, none⟩), .int .i64 30] ?_; (with_reducible refine (spec_l1Rd_below.calls g s0_0 x1001_1 30 t308 t309 w0 _ ?side1 ?side2 A22.out).mono ?_); (case side1 => repeat (first | (with_reducible first | exact HI0.out | apply IsS77.alloc | apply IsS77.drewN | apply IsS77.drew | apply IsS77.set_1 | refine IsS77.far ?_ NB0_287.out _ | refine IsS77.far ?_ NB0_299.out _) | exact HI0.out)); (case side2 => repeat (first | (with_reducible first | exact HB.out | apply below_alloc | apply pw_below_drewN | apply below_drew1 | refine below_set ?_ (IsS77.ge HI0.out) | refine below_set ?_ GE287.out | refine below_set ?_ GE299.out) | exact HB.out)); rintro e w30 ⟨rfl, hi, hb, hk⟩; refine ⟨_, rfl, ?_⟩; replace HO_5 := Aside0.mk (Kd.R_mono (Kd.R_keep (IsS77.apart (show IsS77 w0 _ g s0_0 x1001_1 from sAIsS77_12) (rT_ HO_5) (by decide)) hk (fun _ h => h.2)) (fun _ h => h.1)); replace HO_300001 := Aside0.mk (Kd.R_mono (Kd.R_keep (IsS77.apart (show IsS77 w0 _ g s0_0 x1001_1 from sAIsS77_12) (rT_ HO_300001) (by decide)) hk (fun _ h => h.2)) (fun _ h => h.1)); replace HO_300002 := Aside0.mk (Kd.R_mono (Kd.R_keep (IsS77.apart (show IsS77 w0 _ g s0_0 x1001_1 from sAIsS77_12) (rT_ HO_300002) (by decide)) hk (fun _ h => h.2)) (fun _ h => h.1)); replace HO_300003 := Aside0.mk (Kd.N_mono (Kd.N_keep (Kd.N_mono (ok := fun k_ => (((w.heap.size ≤ k_)) ∧ (some k_ ≠ (u5 : Value).ownBlock ∧ (some k_ ≠ (.slice Ao9 t289.length co9 : Value).ownBlock ∧ (some k_ ≠ (.slice Ao10 t292.length co10 : Value).ownBlock ∧ (k_ ≠ gb287 ∧ (k_ ≠ gb299 ∧ k_ ≠ g))))))) (by (with_reducible repeat (first | apply Kd.N_alloc | apply Kd.N_drewN | apply Kd.N_drew)); exact HO_300003.out) (fun k_ hk_ => (⟨hk_, hk_.2.2.2.2.2.2⟩ : _ ∧ k_ ≠ g))) hk (fun _ h => h.2)) (fun _ h => h.1)); replace BK287 := Aside0.mk (KeepBut.blk hk (g' := gb287) (o := .cells #[.int .i64 0, .slice none 0 0, .slice none 0 0, .slice none 0 0] 30 (0, 0)) (bT_ BK287) NB287_0.out (by simp)); replace BK299 := Aside0.mk (KeepBut.blk hk (g' := gb299) (o := .cells #[.int .i64 t288, .slice Ao9 t289.length co9, .slice Ao10 t292.length co10, .slice Ao11 t295.length co11] 30 (0, 0)) (bT_ BK299) NB299_0.out (by simp)); replace HK := Aside0.mk (KeepBut.trans (w := w) (row := none) sAKeep_12 hk (.inl rfl)); replace HB := Aside0.mk (hb); replace HI0 := Aside0.mk (hi); (try clear hb); (try clear hk); (try clear hi)))
     have pi315 : (0 ≤ (t313 : Int)) = True := eq_true dA_
     have qi315 : (t313 < (y310.length : Int)) = True := eq_true dA_
     replace HO_5 := Aside0.mk (Kd.R_drew HO_5.out)
     replace HO_300001 := Aside0.mk (Kd.R_drew HO_300001.out)
     replace HO_300002 := Aside0.mk (Kd.R_drew HO_300002.out)
     replace HO_300003 := Aside0.mk (Kd.N_drew HO_300003.out)
     replace BK287 := Aside0.mk (blk_drew BK287.out)
     replace BK299 := Aside0.mk (blk_drew BK299.out)
     replace HI0 := Aside0.mk (IsS77.drew HI0.out)
     replace HK := Aside0.mk (keep_drew HK.out)
     replace HB := Aside0.mk (below_drew1 HB.out)
     refine start_ (n := 10) (S := fun w' => w'.cell? ⟨gb299, 0, none⟩ = some (.int .i64 t288) ∧ w'.cell? ⟨gb299, 1, none⟩ = some (.slice Ao9 t289.length co9) ∧ w'.cell? ⟨gb299, 2, none⟩ = some (.slice Ao10 t292.length co10) ∧ w'.cell? ⟨gb299, 3, none⟩ = some (.slice Ao11 t295.length co11)) (ds := [9]) #[false, false, false, false, false, false, false, false, false, false] (by kernel_rfl) rfl rfl ⟨(blk_cell BK299.out 0).trans rfl, (blk_cell BK299.out 1).trans rfl, (blk_cell BK299.out 2).trans rfl, (blk_cell BK299.out 3).trans rfl⟩ (fun hHeld => ?_); refine with_tabW spec_l15Draw.tab9 spec_l15Draw.bits9 (fun HT_ HW_ => ?_)
     generalize w30.drew = w31 at HO_5 HO_300001 HO_300002 HO_300003 BK287 BK299 HI0 HK HB hHeld ⊢
     refine pT_ 0 (some 27) #[true, false, false, false, false, false, false, false, false, false] HT_ ?_
     refine pT_ 4 (some 31) #[true, false, false, false, true, false, false, false, false, false] HT_ ?_
     refine tT_ 1 (some 28) #[true, true, false, false, true, false, false, false, false, false] HT_ HW_ hHeld ?_ (hy := by rintro w' ⟨s0, s1, s2, s3⟩; go_simp; with_reducible rfl)
     refine pT_ 2 (some 29) #[true, true, true, false, true, false, false, false, false, false] HT_ ?_
     refine join_ (σ := Value × Addr) 4 #[true, true, true, true, true, true, false, false, false, false] (fun s_ => [(30, s_.1), (32, .int .i64 t313)]) (fun s_ w' => (w'.cell? ⟨gb299, 0, none⟩ = some (.int .i64 t288) ∧ w'.cell? ⟨gb299, 1, none⟩ = some (.slice Ao9 t289.length co9) ∧ w'.cell? ⟨gb299, 2, none⟩ = some (.slice Ao10 t292.length co10) ∧ w'.cell? ⟨gb299, 3, none⟩ = some (.slice Ao11 t295.length co11)) ∧ (Kd.R (Kd.int .i64) 2 w' w.heap.size (fun k_ => (w.heap.size ≤ k_) ∧ some k_ ≠ (.slice Ao9 t289.length co9 : Value).ownBlock ∧ some k_ ≠ (.slice Ao10 t292.length co10 : Value).ownBlock ∧ some k_ ≠ (u5 : Value).ownBlock) s_.1 y310) ∧ (Kd.R (Kd.int .i64) 2 w' w.heap.size (fun k_ => (w.heap.size ≤ k_) ∧ some k_ ≠ (s_.1 : Value).ownBlock ∧ some k_ ≠ (.slice Ao10 t292.length co10 : Value).ownBlock ∧ some k_ ≠ (u5 : Value).ownBlock) (.slice Ao9 t289.length co9) t289) ∧ (Kd.R (Kd.int .i64) 2 w' w.heap.size (fun k_ => (w.heap.size ≤ k_) ∧ some k_ ≠ (s_.1 : Value).ownBlock ∧ some k_ ≠ (.slice Ao9 t289.length co9 : Value).ownBlock ∧ some k_ ≠ (u5 : Value).ownBlock) (.slice Ao10 t292.length co10) t292) ∧ (Kd.N k52 52 w' w.heap.size (fun k_ => (w.heap.size ≤ k_) ∧ some k_ ≠ (s_.1 : Value).ownBlock ∧ some k_ ≠ (.slice Ao9 t289.length co9 : Value).ownBlock ∧ some k_ ≠ (.slice Ao10 t292.length co10 : Value).ownBlock ∧ some k_ ≠ (u5 : Value).ownBlock ∧ k_ ≠ g ∧ k_ ≠ gb287 ∧ k_ ≠ gb299) (.slice Ao11 t295.length co11) t295) ∧ (Kd.R (Kd.int .i64) 2 w' w.heap.size (fun k_ => (w.heap.size ≤ k_) ∧ some k_ ≠ (s_.1 : Value).ownBlock ∧ some k_ ≠ (.slice Ao9 t289.length co9 : Value).ownBlock ∧ some k_ ≠ (.slice Ao10 t292.length co10 : Value).ownBlock) u5 x5_1) ∧ (∃ c_, (s_.1 : Value) = .slice (some s_.2) y310.length c_) ∧ (w'.heap[gb287]? = some (.cells #[.int .i64 0, .slice none 0 0, .slice none 0 0, .slice none 0 0] 30 (0, 0))) ∧ (w'.heap[gb299]? = some (.cells #[.int .i64 t288, .slice Ao9 t289.length co9, .slice Ao10 t292.length co10, .slice Ao11 t295.length co11] 30 (0, 0))) ∧ (IsS77 w0 w' g s0_0 t314) ∧ (KeepBut w w' g none) ∧ (Below w0.heap.size w0 w')) ?_ ?_
     rotate_left
     ·intro hCont
      refine two_ (i := 3) (j := 5) (Ni := some 30) (Nj := some 32) #[true, true, true, true, true, false, false, false, false, false] #[true, true, true, false, true, true, false, false, false, false] rfl rfl rfl rfl (two_of HT_.out (by kernel_rfl)) (by decide) (by decide) (fun K hK => ?_) (fun K hK => ?_)
      ·skip
       refine Kd.R_lit_step (Kd.int .i64) _ 2 ?hg (N := 30) ?hd (xs := ([0, 7, wrap64 (t288 + 1)] : List Int)) (inner := [.int .i64 0, .int .i64 7, .int .i64 (wrap64 (t288 + 1))]) (ok := fun _ => True) (okp := fun _ => True) ?hr ?hp (fun _ hk => hk) trivial (Below.refl _ _) (Nat.le_refl _) (by simp) ?_; (case hd => rfl); (case hg => rfl); (case hr => first | (go_simp; done) | (go_simp; rfl)); (case hp => exact (Reps.one (show Kd.M (Kd.int .i64) _ _ _ 0 [.int .i64 0] from rfl) (Reps.one (show Kd.M (Kd.int .i64) _ _ _ 7 [.int .i64 7] from rfl) (Reps.one (show Kd.M (Kd.int .i64) _ _ _ (wrap64 (t288 + 1)) [.int .i64 (wrap64 (t288 + 1))] from rfl) (Reps.none _ _)))))
       intro v311 w32 ho33 hb hg_ hnew_
       clear hg_ hnew_
       (first | rw [← Ny310.out] at ho33 | (simp only [Int.reduceToNat] at ho33; rw [← Ny310.out] at ho33))
       replace HO_300003 := Aside0.mk (Kd.N_elder' (by (with_reducible repeat (first | apply Kd.N_alloc | apply Kd.N_drewN | apply Kd.N_drew)); exact HO_300003.out) (Kd.R_base ho33) hb)
       have HO312 := Aside0.mk (Kd.R_lower (Kd.R_new' (Kd.R_new' (Kd.R_new' (Kd.R_newM (M := fun k_ => (w.heap.size ≤ k_)) ho33 (keep_size (w := w) (g := g) (row := none) sAKeep_12) (fun k_ h_ => h_)) (rLt_ HO_5)) (rLt_ HO_300001)) (rLt_ HO_300002)) (keep_size (w := w) (g := g) (row := none) sAKeep_12))
       replace HO_5 := rE_ HO_5 ho33 hb; replace HO_300001 := rE_ HO_300001 ho33 hb; replace HO_300002 := rE_ HO_300002 ho33 hb; replace BK287 := bB_ BK287 hb; replace BK299 := bB_ BK299 hb
       replace HK := Aside0.mk (KeepBut.trans (w := w) (row := none) sAKeep_12 (KeepBut.of_below hb g none) (.inl rfl))
       replace HB := Aside0.mk (below_step sABelo_12 hb)
       replace HI0 := Aside0.mk (IsS77.below sAIsS77_12 hb)
       clear hb ho33
       obtain ⟨Ao34, co34, eo34⟩ := Kd.R_slice HO312.out
       subst eo34
       obtain ⟨ado34, fo34, _⟩ := Kd.at_int (Kd.R_reads' HO312.out).2.2 0 (by decide) (by rw [Ny310.out]; simp)
       cases fo34
       refine hK.out _ _ ⟨(blk_cell BK299.out 0).trans rfl, (blk_cell BK299.out 1).trans rfl, (blk_cell BK299.out 2).trans rfl, (blk_cell BK299.out 3).trans rfl⟩ (fun hHeld => ?_)
       clear hK K
       refine nS_ (some 30) ?_
       refine one_ (i := 5) (N := some 32) #[true, true, true, true, true, true, false, false, false, false] rfl rfl (one_of HT_.out (by kernel_rfl)) (by decide) (fun K hK => ?_)
       refine goes_ Try.func45 (by kernel_rfl) rfl #[.pointer (some ⟨g, 0, none⟩), .int .i64 3] (by rfl) rfl rfl (by (try simp only [List.map_toArray, List.map_cons, List.map_nil]); first | done | rfl | (simp only [List.length_drop, List.length_take]; rfl)) ?_
       with_reducible refine (spec_l1Rd_below.calls g s0_0 t309 3 t313 t314 w0 _ ?side1 ?side2 A24.out).mono ?_
       (case side1 => repeat (first | (with_reducible first | exact HI0.out | apply IsS77.alloc | apply IsS77.drewN | apply IsS77.drew | apply IsS77.set_1 | refine IsS77.far ?_ NB0_287.out _ | refine IsS77.far ?_ NB0_299.out _) | exact HI0.out))
       (case side2 => repeat (first | (with_reducible first | exact HB.out | apply below_alloc | apply pw_below_drewN | apply below_drew1 | refine below_set ?_ (IsS77.ge HI0.out) | refine below_set ?_ GE287.out | refine below_set ?_ GE299.out) | exact HB.out))
       rintro e w35 ⟨rfl, hi, hb, hk⟩
       refine ⟨_, rfl, ?_⟩
       replace HO_5 := Aside0.mk (Kd.R_mono (Kd.R_keep (IsS77.apart (show IsS77 w0 _ g s0_0 t309 from sAIsS77_12) (rT_ HO_5) (by decide)) hk (fun _ h => h.2)) (fun _ h => h.1))
       replace HO_300001 := Aside0.mk (Kd.R_mono (Kd.R_keep (IsS77.apart (show IsS77 w0 _ g s0_0 t309 from sAIsS77_12) (rT_ HO_300001) (by decide)) hk (fun _ h => h.2)) (fun _ h => h.1))
       replace HO_300002 := Aside0.mk (Kd.R_mono (Kd.R_keep (IsS77.apart (show IsS77 w0 _ g s0_0 t309 from sAIsS77_12) (rT_ HO_300002) (by decide)) hk (fun _ h => h.2)) (fun _ h => h.1))
       replace HO_300003 := Aside0.mk (Kd.N_mono (Kd.N_keep (Kd.N_mono (ok := fun k_ => ((((w.heap.size ≤ k_)) ∧ (some k_ ≠ (u5 : Value).ownBlock ∧ (some k_ ≠ (.slice Ao9 t289.length co9 : Value).ownBlock ∧ (some k_ ≠ (.slice Ao10 t292.length co10 : Value).ownBlock ∧ (k_ ≠ gb287 ∧ (k_ ≠ gb299 ∧ k_ ≠ g)))))) ∧ some k_ ≠ (.slice (some ado34) y310.length co34 : Value).ownBlock)) (by (with_reducible repeat (first | apply Kd.N_alloc | apply Kd.N_drewN | apply Kd.N_drew)); exact HO_300003.out) (fun k_ hk_ => (⟨hk_, hk_.1.2.2.2.2.2.2⟩ : _ ∧ k_ ≠ g))) hk (fun _ h => h.2)) (fun _ h => h.1))
       replace BK287 := Aside0.mk (KeepBut.blk hk (g' := gb287) (o := .cells #[.int .i64 0, .slice none 0 0, .slice none 0 0, .slice none 0 0] 30 (0, 0)) (bT_ BK287) NB287_0.out (by simp))
       replace BK299 := Aside0.mk (KeepBut.blk hk (g' := gb299) (o := .cells #[.int .i64 t288, .slice Ao9 t289.length co9, .slice Ao10 t292.length co10, .slice Ao11 t295.length co11] 30 (0, 0)) (bT_ BK299) NB299_0.out (by simp))
       replace HO312 := Aside0.mk (Kd.R_mono (Kd.R_keep (IsS77.apart (show IsS77 w0 _ g s0_0 t309 from sAIsS77_12) (rT_ HO312) (by decide)) hk (fun _ h => h.2)) (fun _ h => h.1))
       replace HK := Aside0.mk (KeepBut.trans (w := w) (row := none) sAKeep_12 hk (.inl rfl))
       replace HB := Aside0.mk (hb)
       replace HI0 := Aside0.mk (hi)
       (try clear hb); (try clear hk); (try clear hi)
       refine hK.out _ _ ⟨(blk_cell BK299.out 0).trans rfl, (blk_cell BK299.out 1).trans rfl, (blk_cell BK299.out 2).trans rfl, (blk_cell BK299.out 3).trans rfl⟩ (fun hHeld => ?_)
       clear hK K
       refine nS_ (some 32) ?_
       exact norm_ (by simp only [putAll, Act.put, List.setIfInBounds_toArray, List.set_cons_zero, List.set_cons_succ]) (hCont (.slice (some ado34) y310.length co34, ado34) _ ⟨hHeld, (rM_ HO312), (rM_ HO_300001), (rM_ HO_300002), (by (with_reducible repeat (first | apply Kd.N_alloc | apply Kd.N_drewN | apply Kd.N_drew)); exact Kd.N_mono HO_300003.out (fun _ hk => ⟨hk.1.1, ⟨hk.2, ⟨hk.1.2.2.1, ⟨hk.1.2.2.2.1, ⟨hk.1.2.1, ⟨hk.1.2.2.2.2.2.2, ⟨hk.1.2.2.2.2.1, hk.1.2.2.2.2.2.1⟩⟩⟩⟩⟩⟩⟩)), (rM_ HO_5), ⟨_, rfl⟩, (bT_ BK287), (bT_ BK299), sAIsS77_12, sAKeep_12, sABelo_12⟩)
      ·skip
       refine goes_ Try.func45 (by kernel_rfl) rfl #[.pointer (some ⟨g, 0, none⟩), .int .i64 3] (by rfl) rfl rfl (by (try simp only [List.map_toArray, List.map_cons, List.map_nil]); first | done | rfl | (simp only [List.length_drop, List.length_take]; rfl)) ?_
       with_reducible refine (spec_l1Rd_below.calls g s0_0 t309 3 t313 t314 w0 _ ?side1 ?side2 A24.out).mono ?_
       (case side1 => repeat (first | (with_reducible first | exact HI0.out | apply IsS77.alloc | apply IsS77.drewN | apply IsS77.drew | apply IsS77.set_1 | refine IsS77.far ?_ NB0_287.out _ | refine IsS77.far ?_ NB0_299.out _) | exact HI0.out))
       (case side2 => repeat (first | (with_reducible first | exact HB.out | apply below_alloc | apply pw_below_drewN | apply below_drew1 | refine below_set ?_ (IsS77.ge HI0.out) | refine below_set ?_ GE287.out | refine below_set ?_ GE299.out) | exact HB.out))
       rintro e w32 ⟨rfl, hi, hb, hk⟩
       refine ⟨_, rfl, ?_⟩
       replace HO_5 := Aside0.mk (Kd.R_mono (Kd.R_keep (IsS77.apart (show IsS77 w0 _ g s0_0 t309 from sAIsS77_12) (rT_ HO_5) (by decide)) hk (fun _ h => h.2)) (fun _ h => h.1))
       replace HO_300001 := Aside0.mk (Kd.R_mono (Kd.R_keep (IsS77.apart (show IsS77 w0 _ g s0_0 t309 from sAIsS77_12) (rT_ HO_300001) (by decide)) hk (fun _ h => h.2)) (fun _ h => h.1))
       replace HO_300002 := Aside0.mk (Kd.R_mono (Kd.R_keep (IsS77.apart (show IsS77 w0 _ g s0_0 t309 from sAIsS77_12) (rT_ HO_300002) (by decide)) hk (fun _ h => h.2)) (fun _ h => h.1))
       replace HO_300003 := Aside0.mk (Kd.N_mono (Kd.N_keep (Kd.N_mono (ok := fun k_ => (((w.heap.size ≤ k_)) ∧ (some k_ ≠ (u5 : Value).ownBlock ∧ (some k_ ≠ (.slice Ao9 t289.length co9 : Value).ownBlock ∧ (some k_ ≠ (.slice Ao10 t292.length co10 : Value).ownBlock ∧ (k_ ≠ gb287 ∧ (k_ ≠ gb299 ∧ k_ ≠ g))))))) (by (with_reducible repeat (first | apply Kd.N_alloc | apply Kd.N_drewN | apply Kd.N_drew)); exact HO_300003.out) (fun k_ hk_ => (⟨hk_, hk_.2.2.2.2.2.2⟩ : _ ∧ k_ ≠ g))) hk (fun _ h => h.2)) (fun _ h => h.1))
       replace BK287 := Aside0.mk (KeepBut.blk hk (g' := gb287) (o := .cells #[.int .i64 0, .slice none 0 0, .slice none 0 0, .slice none 0 0] 30 (0, 0)) (bT_ BK287) NB287_0.out (by simp))
       replace BK299 := Aside0.mk (KeepBut.blk hk (g' := gb299) (o := .cells #[.int .i64 t288, .slice Ao9 t289.length co9, .slice Ao10 t292.length co10, .slice Ao11 t295.length co11] 30 (0, 0)) (bT_ BK299) NB299_0.out (by simp))
       replace HK := Aside0.mk (KeepBut.trans (w := w) (row := none) sAKeep_12 hk (.inl rfl))
       replace HB := Aside0.mk (hb)
       replace HI0 := Aside0.mk (hi)
       (try clear hb); (try clear hk); (try clear hi)
       refine hK.out _ _ ⟨(blk_cell BK299.out 0).trans rfl, (blk_cell BK299.out 1).trans rfl, (blk_cell BK299.out 2).trans rfl, (blk_cell BK299.out 3).trans rfl⟩ (fun hHeld => ?_)
       clear hK K
       refine nS_ (some 32) ?_
       refine one_ (i := 3) (N := some 30) #[true, true, true, true, true, true, false, false, false, false] rfl rfl (one_of HT_.out (by kernel_rfl)) (by decide) (fun K hK => ?_)
       refine Kd.R_lit_step (Kd.int .i64) _ 2 ?hg (N := 30) ?hd (xs := ([0, 7, wrap64 (t288 + 1)] : List Int)) (inner := [.int .i64 0, .int .i64 7, .int .i64 (wrap64 (t288 + 1))]) (ok := fun _ => True) (okp := fun _ => True) ?hr ?hp (fun _ hk => hk) trivial (Below.refl _ _) (Nat.le_refl _) (by simp) ?_; (case hd => rfl); (case hg => rfl); (case hr => first | (go_simp; done) | (go_simp; rfl)); (case hp => exact (Reps.one (show Kd.M (Kd.int .i64) _ _ _ 0 [.int .i64 0] from rfl) (Reps.one (show Kd.M (Kd.int .i64) _ _ _ 7 [.int .i64 7] from rfl) (Reps.one (show Kd.M (Kd.int .i64) _ _ _ (wrap64 (t288 + 1)) [.int .i64 (wrap64 (t288 + 1))] from rfl) (Reps.none _ _)))))
       intro v311 w33 ho34 hb hg_ hnew_
       clear hg_ hnew_
       (first | rw [← Ny310.out] at ho34 | (simp only [Int.reduceToNat] at ho34; rw [← Ny310.out] at ho34))
       replace HO_300003 := Aside0.mk (Kd.N_elder' (by (with_reducible repeat (first | apply Kd.N_alloc | apply Kd.N_drewN | apply Kd.N_drew)); exact HO_300003.out) (Kd.R_base ho34) hb)
       have HO312 := Aside0.mk (Kd.R_lower (Kd.R_new' (Kd.R_new' (Kd.R_new' (Kd.R_newM (M := fun k_ => (w.heap.size ≤ k_)) ho34 (keep_size (w := w) (g := g) (row := none) sAKeep_12) (fun k_ h_ => h_)) (rLt_ HO_5)) (rLt_ HO_300001)) (rLt_ HO_300002)) (keep_size (w := w) (g := g) (row := none) sAKeep_12))
       replace HO_5 := rE_ HO_5 ho34 hb; replace HO_300001 := rE_ HO_300001 ho34 hb; replace HO_300002 := rE_ HO_300002 ho34 hb; replace BK287 := bB_ BK287 hb; replace BK299 := bB_ BK299 hb
       replace HK := Aside0.mk (KeepBut.trans (w := w) (row := none) sAKeep_12 (KeepBut.of_below hb g none) (.inl rfl))
       replace HB := Aside0.mk (below_step sABelo_12 hb)
       replace HI0 := Aside0.mk (IsS77.below sAIsS77_12 hb)
       clear hb ho34
       obtain ⟨Ao35, co35, eo35⟩ := Kd.R_slice HO312.out
       subst eo35
       obtain ⟨ado35, fo35, _⟩ := Kd.at_int (Kd.R_reads' HO312.out).2.2 0 (by decide) (by rw [Ny310.out]; simp)
       cases fo35
       refine hK.out _ _ ⟨(blk_cell BK299.out 0).trans rfl, (blk_cell BK299.out 1).trans rfl, (blk_cell BK299.out 2).trans rfl, (blk_cell BK299.out 3).trans rfl⟩ (fun hHeld => ?_)
       clear hK K
       refine nS_ (some 30) ?_
       exact norm_ (by simp only [putAll, Act.put, List.setIfInBounds_toArray, List.set_cons_zero, List.set_cons_succ]) (hCont (.slice (some ado35) y310.length co35, ado35) _ ⟨hHeld, (rM_ HO312), (rM_ HO_300001), (rM_ HO_300002), (by (with_reducible repeat (first | apply Kd.N_alloc | apply Kd.N_drewN | apply Kd.N_drew)); exact Kd.N_mono HO_300003.out (fun _ hk => ⟨hk.1.1, ⟨hk.2, ⟨hk.1.2.2.1, ⟨hk.1.2.2.2.1, ⟨hk.1.2.1, ⟨hk.1.2.2.2.2.2.2, ⟨hk.1.2.2.2.2.1, hk.1.2.2.2.2.2.1⟩⟩⟩⟩⟩⟩⟩)), (rM_ HO_5), ⟨_, rfl⟩, (bT_ BK287), (bT_ BK299), sAIsS77_12, sAKeep_12, sABelo_12⟩)
     rintro ⟨v311, adz_v311⟩ w36 ⟨hS_, h0_, h1_, h2_, h3_, h4_, h5_, h6_, h7_, h8_, h9_, h10_⟩
     try dsimp only at h0_ h1_ h2_ h3_ h4_ h5_ h6_ h7_ h8_ h9_ h10_
     have HO312 := Aside0.mk h0_; replace HO_300001 := Aside0.mk h1_; replace HO_300002 := Aside0.mk h2_; replace HO_300003 := Aside0.mk h3_; replace HO_5 := Aside0.mk h4_; have HA_HO312 := Aside0.mk h5_; replace BK287 := Aside0.mk h6_; replace BK299 := Aside0.mk h7_; replace HI0 := Aside0.mk h8_; replace HK := Aside0.mk h9_; replace HB := Aside0.mk h10_; clear h0_ h1_ h2_ h3_ h4_ h5_ h6_ h7_ h8_ h9_ h10_
     have hHeld : w36.cell? ⟨gb299, 0, none⟩ = some (.int .i64 t288) ∧ w36.cell? ⟨gb299, 1, none⟩ = some (.slice Ao9 t289.length co9) ∧ w36.cell? ⟨gb299, 2, none⟩ = some (.slice Ao10 t292.length co10) ∧ w36.cell? ⟨gb299, 3, none⟩ = some (.slice Ao11 t295.length co11) := hS_
     obtain ⟨co37, eo37⟩ := HA_HO312.out
     clear HA_HO312
     subst eo37
     refine norm_ (a' := ?_) ?_ ?_
     rotate_left
     ·simp only [putAll, Act.put, List.setIfInBounds_toArray, List.set_cons_zero, List.set_cons_succ]
      rfl
     refine pT_ 6 (some 33) #[true, true, true, true, true, true, true, false, false, false] HT_ ?_
     refine one_ (i := 7) (N := some 34) #[true, true, true, true, true, true, true, true, false, false] rfl rfl (one_of HT_.out (by kernel_rfl)) (by decide) (fun K hK => ?_)
     (have p315 : 0 ≤ (t313 : Int) := dA_; have q315 : t313 < (y310.length : Int) := dA_; obtain ⟨ad315, e315, hx315_0⟩ := Kd.at_int (Kd.R_reads' HO312.out).2.2 t313 p315 q315; obtain rfl : adz_v311 = ad315 := (by injection e315))
     refine value_ (w1 := ?_) (v := ?_) (by rfl) rfl ?_ ?_
     rotate_left 2
     ·go_simp
      constructor
      ·rfl
      ·rfl
     clear hx315_0
     refine hK.out _ _ ⟨(blk_cell BK299.out 0).trans rfl, (blk_cell BK299.out 1).trans rfl, (blk_cell BK299.out 2).trans rfl, (blk_cell BK299.out 3).trans rfl⟩ (fun hHeld => ?_)
     clear hK K
     refine nS_ (some 34) ?_
     refine pT_ 8 (some 35) #[true, true, true, true, true, true, true, true, true, false] HT_ ?_
     refine last_ (i := 9) (N := none) #[true, true, true, true, true, true, true, true, true, true] rfl rfl (one_of HT_.out (by kernel_rfl)) (by decide) (fun K hK => ?_)
     have hs38 : w36.cell? ⟨gb299, 0, none⟩ = some (.int .i64 t288) := (blk_cell BK299.out 0).trans rfl
     have hfs38 := blk_frozen BK299.out 0; have hns38_0 := NB287_299.out; have hms38_0 := NB299_287.out
     refine skip_ (w1 := ?_) (by rfl) rfl ?_ ?_
     rotate_left
     ·go_simp
      rfl
     refine hK.out _ _ ?_
     clear hK K
     refine done_ (done_of HT_.out (by kernel_rfl)) ?_
     obtain ⟨hcz39_0, hcz39_1, hcz39_2, hcz39_3, hfz39_0, hfz39_1, hfz39_2, hfz39_3⟩ := cf4_ BK299; have hnb40 := NB287_0.out; have hnc40 := NB0_287.out
     obtain ⟨hcz41_0, hcz41_1, hcz41_2, hcz41_3, hfz41_0, hfz41_1, hfz41_2, hfz41_3⟩ := cf4_ BK287
     try go_wp2
     refine bodyPost_ret (results_ct rfl _ _ gb287 30 #[.int .i64 (rd y310 t313), .slice Ao9 t289.length co9, .slice Ao10 t292.length co10, .slice Ao11 t295.length co11] (0, 0) _ rfl (by (with_reducible repeat (first | refine blk_drewN ?_ _ | refine blk_drew ?_ | refine blk_alloc ?_ _)); refine blk_put (cs := #[.int .i64 (rd y310 t313), .slice Ao9 t289.length co9, .slice Ao10 t292.length co10, .slice none 0 0]) ?_ 3 _ rfl; (with_reducible repeat (first | refine blk_drewN ?_ _ | refine blk_drew ?_ | refine blk_alloc ?_ _)); refine blk_put (cs := #[.int .i64 (rd y310 t313), .slice Ao9 t289.length co9, .slice none 0 0, .slice none 0 0]) ?_ 2 _ rfl; (with_reducible repeat (first | refine blk_drewN ?_ _ | refine blk_drew ?_ | refine blk_alloc ?_ _)); refine blk_put (cs := #[.int .i64 (rd y310 t313), .slice none 0 0, .slice none 0 0, .slice none 0 0]) ?_ 1 _ rfl; (with_reducible repeat (first | refine blk_drewN ?_ _ | refine blk_drew ?_ | refine blk_alloc ?_ _)); refine blk_put (cs := #[.int .i64 0, .slice none 0 0, .slice none 0 0, .slice none 0 0]) ?_ 0 _ rfl; (with_reducible repeat (first | refine blk_drewN ?_ _ | refine blk_drew ?_ | refine blk_alloc ?_ _)); refine blk_far ?_ NB287_299.out _; exact bT_ BK287) Try.underlying30 rfl (by kernel_rfl)) rfl ?_
     exact ⟨_, _, _, _, by first | rfl | (simp [errW_none, errW_some] <;> rfl) | (simp [*, errW_none, errW_some] <;> rfl), by (with_reducible repeat (first | apply Kd.R_alloc | apply Kd.R_drewN | apply Kd.R_drew)); exact Kd.R_mono (Kd.R_far (p := ⟨gb287, 3, none⟩) (Kd.R_far (p := ⟨gb287, 2, none⟩) (Kd.R_far (p := ⟨gb287, 1, none⟩) (Kd.R_far (p := ⟨gb287, 0, none⟩) (Kd.R_far (p := ⟨gb299, 0, none⟩) (Kd.R_types (Kd.R_types HO_300001.out BK299.out (by decide)) BK287.out (by decide)) (fun _ hk => hk.1.2) (.int .i64 (rd y310 t313))) (fun _ hk => hk.2) (.int .i64 (rd y310 t313))) (fun _ hk => hk.2) (.slice Ao9 t289.length co9)) (fun _ hk => hk.2) (.slice Ao10 t292.length co10)) (fun _ hk => hk.2) (.slice Ao11 t295.length co11)) (fun _ hk => ⟨hk.1.1.1, ⟨hk.1.1.2.2.1, hk.1.1.2.2.2⟩⟩), by (with_reducible repeat (first | apply Kd.R_alloc | apply Kd.R_drewN | apply Kd.R_drew)); exact Kd.R_mono (Kd.R_far (p := ⟨gb287, 3, none⟩) (Kd.R_far (p := ⟨gb287, 2, none⟩) (Kd.R_far (p := ⟨gb287, 1, none⟩) (Kd.R_far (p := ⟨gb287, 0, none⟩) (Kd.R_far (p := ⟨gb299, 0, none⟩) (Kd.R_types (Kd.R_types HO_300002.out BK299.out (by decide)) BK287.out (by decide)) (fun _ hk => hk.1.2) (.int .i64 (rd y310 t313))) (fun _ hk => hk.2) (.int .i64 (rd y310 t313))) (fun _ hk => hk.2) (.slice Ao9 t289.length co9)) (fun _ hk => hk.2) (.slice Ao10 t292.length co10)) (fun _ hk => hk.2) (.slice Ao11 t295.length co11)) (fun _ hk => ⟨hk.1.1.1, ⟨hk.1.1.2.2.1, hk.1.1.2.2.2⟩⟩), by (with_reducible repeat (first | apply Kd.N_alloc | apply Kd.N_drewN | apply Kd.N_drew)); exact Kd.N_mono (Kd.N_far (p := ⟨gb287, 3, none⟩) (Kd.N_far (p := ⟨gb287, 2, none⟩) (Kd.N_far (p := ⟨gb287, 1, none⟩) (Kd.N_far (p := ⟨gb287, 0, none⟩) (Kd.N_far (p := ⟨gb299, 0, none⟩) (Kd.N_mono (Kd.N_mono HO_300003.out (fun k_ hk => (⟨hk, hk.2.2.2.2.2.2.2⟩ : _ ∧ k_ ≠ gb299))) (fun k_ hk => (⟨hk, hk.1.2.2.2.2.2.2.1⟩ : _ ∧ k_ ≠ gb287))) (fun _ hk => hk.1.2) (.int .i64 (rd y310 t313))) (fun _ hk => hk.2) (.int .i64 (rd y310 t313))) (fun _ hk => hk.2) (.slice Ao9 t289.length co9)) (fun _ hk => hk.2) (.slice Ao10 t292.length co10)) (fun _ hk => hk.2) (.slice Ao11 t295.length co11)) (fun _ hk => ⟨hk.1.1.1, ⟨hk.1.1.2.2.1, ⟨hk.1.1.2.2.2.1, hk.1.1.2.2.2.2.1⟩⟩⟩), by (with_reducible repeat (first | apply Kd.R_alloc | apply Kd.R_drewN | apply Kd.R_drew)); exact Kd.R_mono (Kd.R_far (p := ⟨gb287, 3, none⟩) (Kd.R_far (p := ⟨gb287, 2, none⟩) (Kd.R_far (p := ⟨gb287, 1, none⟩) (Kd.R_far (p := ⟨gb287, 0, none⟩) (Kd.R_far (p := ⟨gb299, 0, none⟩) (Kd.R_types (Kd.R_types HO_5.out BK299.out (by decide)) BK287.out (by decide)) (fun _ hk => hk.1.2) (.int .i64 (rd y310 t313))) (fun _ hk => hk.2) (.int .i64 (rd y310 t313))) (fun _ hk => hk.2) (.slice Ao9 t289.length co9)) (fun _ hk => hk.2) (.slice Ao10 t292.length co10)) (fun _ hk => hk.2) (.slice Ao11 t295.length co11)) (fun _ hk => ⟨hk.1.1.1, ⟨hk.1.1.2.2.1, hk.1.1.2.2.2⟩⟩), sAIsS77_12, sABelo_12, sAKeep_12⟩
    ·rw [if_neg c23] at H
     have c23b0 := beq_eq_false_iff_ne.mpr c23
     have c23b1 := bne_iff_ne.mpr c23
     by_cases c42 : t308 = 1
     ·rw [if_pos c42] at H
      have c42b0 := beq_iff_eq.mpr c42
      have c42b1 := bne_eq_false_iff_eq.mpr c42
      clear c42
      obtain ⟨y316, hy316⟩ : ∃ y_ : List Int, y_ = (([0, 5, 6] : List Int)) := ⟨_, rfl⟩
      replace H : ((spec_l1Rd_below.f s0_0 t309 3).bind fun bt319 => (if 0 ≤ bt319.1 then (if bt319.1 < (y316.length : Int) then (if 0 < (t292.length : Int) then (some (t288, t289, (t292.set (0 : Int).toNat (rd y316 bt319.1)), t295, x5_1, bt319.2)) else (none)) else (none)) else (none))) = some (r1, r2, r3, r4, r5, r6) := by first | (rw [hy316]; with_reducible exact H) | (have H2_ := (Option.bind_some _ _).symm.trans H; rw [hy316]; with_reducible exact H2_) | (have H2_ := (Option.bind_some _ _).symm.trans H; with_reducible exact H2_) | with_reducible exact H | (rw [hy316]; exact H) | exact H
      have Ny316 := Aside0.mk hy316; clear hy316; replace H := Option.bind_eq_some_iff.mp H
      obtain ⟨⟨t319, t320⟩, A430, H⟩ := H
      replace H : (if 0 ≤ t319 then (if t319 < (y316.length : Int) then (if 0 < (t292.length : Int) then (some (t288, t289, (t292.set (0 : Int).toNat (rd y316 t319)), t295, x5_1, t320)) else (none)) else (none)) else (none)) = some (r1, r2, r3, r4, r5, r6) := H
      have A43 := Aside0.mk A430; clear A430
      obtain ⟨c44, H⟩ := ifS_ H
      have c44b0 : decide (0 ≤ t319) = true := decide_eq_true c44
      clear c44
      obtain ⟨c45, H⟩ := ifS_ H
      have c45b0 : decide (t319 < (y316.length : Int)) = true := decide_eq_true c45
      clear c45
      obtain ⟨c46, H⟩ := ifS_ H
      have c46b0 : decide (0 < (t292.length : Int)) = true := decide_eq_true c46
      have c46b1 : decide (0 < t292.length) = true := decide_eq_true (by omega)
      clear c46
      obtain ⟨y322, hy322⟩ : ∃ y_ : List Int, y_ = (t292.set (0 : Int).toNat (rd y316 t319)) := ⟨_, rfl⟩
      replace H : (some (t288, t289, y322, t295, x5_1, t320)) = some (r1, r2, r3, r4, r5, r6) := by first | (rw [hy322]; with_reducible exact H) | (have H2_ := (Option.bind_some _ _).symm.trans H; rw [hy322]; with_reducible exact H2_) | (have H2_ := (Option.bind_some _ _).symm.trans H; with_reducible exact H2_) | with_reducible exact H | (rw [hy322]; exact H) | exact H
      have Ny322 := Aside0.mk hy322; clear hy322
      simp only [Option.some.injEq, Prod.mk.injEq] at H
      obtain ⟨rfl, rfl, rfl, rfl, rfl, rfl⟩ := H
      have hnb48 := NB299_287.out; have hnc48 := NB287_299.out; have hnb49 := NB299_0.out; have hnc49 := NB0_299.out
      obtain ⟨hcz50_0, hcz50_1, hcz50_2, hcz50_3, hfz50_0, hfz50_1, hfz50_2, hfz50_3⟩ := cf4_ BK299
      try go_wp2_with (first | ((with_reducible refine gate_callee (f := 45) rfl ?_); refine gL_ (some 24) Try.func45 #[.pointer (some ⟨g, 0, none⟩), .int .i64 30] ?_; (with_reducible refine (spec_l1Rd_below.calls g s0_0 x1001_1 30 t308 t309 w0 _ ?side1 ?side2 A22.out).mono ?_); (case side1 => repeat (first | (with_reducible first | exact HI0.out | apply IsS77.alloc | apply IsS77.drewN | apply IsS77.drew | apply IsS77.set_1 | refine IsS77.far ?_ NB0_287.out _ | refine IsS77.far ?_ NB0_299.out _) | exact HI0.out)); (case side2 => repeat (first | (with_reducible first | exact HB.out | apply below_alloc | apply pw_below_drewN | apply below_drew1 | refine below_set ?_ (IsS77.ge HI0.out) | refine below_set ?_ GE287.out | refine below_set ?_ GE299.out) | exact HB.out)); rintro e w51 ⟨rfl, hi, hb, hk⟩; refine ⟨_, rfl, ?_⟩; replace HO_5 := Aside0.mk (Kd.R_mono (Kd.R_keep (IsS77.apart (show IsS77 w0 _ g s0_0 x1001_1 from sAIsS77_12) (rT_ HO_5) (by decide)) hk (fun _ h => h.2)) (fun _ h => h.1)); replace HO_300001 := Aside0.mk (Kd.R_mono (Kd.R_keep (IsS77.apart (show IsS77 w0 _ g s0_0 x1001_1 from sAIsS77_12) (rT_ HO_300001) (by decide)) hk (fun _ h => h.2)) (fun _ h => h.1)); replace HO_300002 := Aside0.mk (Kd.R_mono (Kd.R_keep (IsS77.apart (show IsS77 w0 _ g s0_0 x1001_1 from sAIsS77_12) (rT_ HO_300002) (by decide)) hk (fun _ h => h.2)) (fun _ h => h.1)); replace HO_300003 := Aside0.mk (Kd.N_mono (Kd.N_keep (Kd.N_mono (ok := fun k_ => (((w.heap.size ≤ k_)) ∧ (some k_ ≠ (u5 : Value).ownBlock ∧ (some k_ ≠ (.slice Ao9 t289.length co9 : Value).ownBlock ∧ (some k_ ≠ (.slice Ao10 t292.length co10 : Value).ownBlock ∧ (k_ ≠ gb287 ∧ (k_ ≠ gb299 ∧ k_ ≠ g))))))) (by (with_reducible repeat (first | apply Kd.N_alloc | apply Kd.N_drewN | apply Kd.N_drew)); exact HO_300003.out) (fun k_ hk_ => (⟨hk_, hk_.2.2.2.2.2.2⟩ : _ ∧ k_ ≠ g))) hk (fun _ h => h.2)) (fun _ h => h.1)); replace BK287 := Aside0.mk (KeepBut.blk hk (g' := gb287) (o := .cells #[.int .i64 0, .slice none 0 0, .slice none 0 0, .slice none 0 0] 30 (0, 0)) (bT_ BK287) NB287_0.out (by simp)); replace BK299 := Aside0.mk (KeepBut.blk hk (g' := gb299) (o := .cells #[.int .i64 t288, .slice Ao9 t289.length co9, .slice Ao10 t292.length co10, .slice Ao11 t295.length co11] 30 (0, 0)) (bT_ BK299) NB299_0.out (by simp)); replace HK := Aside0.mk (KeepBut.trans (w := w) (row := none) sAKeep_12 hk (.inl rfl)); replace HB := Aside0.mk (hb); replace HI0 := Aside0.mk (hi); (try clear hb); (try clear hk); (try clear hi)))
      have pi321 : (0 ≤ (t319 : Int)) = True := eq_true dA_
      have qi321 : (t319 < (y316.length : Int)) = True := eq_true dA_
      replace HO_5 := Aside0.mk (Kd.R_drew HO_5.out)
      replace HO_300001 := Aside0.mk (Kd.R_drew HO_300001.out)
      replace HO_300002 := Aside0.mk (Kd.R_drew HO_300002.out)
      replace HO_300003 := Aside0.mk (Kd.N_drew HO_300003.out)
      replace BK287 := Aside0.mk (blk_drew BK287.out)
      replace BK299 := Aside0.mk (blk_drew BK299.out)
      replace HI0 := Aside0.mk (IsS77.drew HI0.out)
      replace HK := Aside0.mk (keep_drew HK.out)
      replace HB := Aside0.mk (below_drew1 HB.out)
      refine start_ (n := 9) (S := fun w' => w'.cell? ⟨gb299, 0, none⟩ = some (.int .i64 t288) ∧ w'.cell? ⟨gb299, 1, none⟩ = some (.slice Ao9 t289.length co9) ∧ w'.cell? ⟨gb299, 2, none⟩ = some (.slice Ao10 t292.length co10) ∧ w'.cell? ⟨gb299, 3, none⟩ = some (.slice Ao11 t295.length co11)) (ds := [8]) #[false, false, false, false, false, false, false, false, false] (by kernel_rfl) rfl rfl ⟨(blk_cell BK299.out 0).trans rfl, (blk_cell BK299.out 1).trans rfl, (blk_cell BK299.out 2).trans rfl, (blk_cell BK299.out 3).trans rfl⟩ (fun hHeld => ?_); refine with_tabW spec_l15Draw.tab11 spec_l15Draw.bits11 (fun HT_ HW_ => ?_)
      generalize w51.drew = w52 at HO_5 HO_300001 HO_300002 HO_300003 BK287 BK299 HI0 HK HB hHeld ⊢
      refine pT_ 0 (some 38) #[true, false, false, false, false, false, false, false, false] HT_ ?_
      refine pT_ 3 (some 41) #[true, false, false, true, false, false, false, false, false] HT_ ?_
      refine tT_ 1 (some 39) #[true, true, false, true, false, false, false, false, false] HT_ HW_ hHeld ?_ (hy := by rintro w' ⟨s0, s1, s2, s3⟩; go_simp; with_reducible rfl)
      refine join_ (σ := Value × Addr) 4 #[true, true, true, true, true, false, false, false, false] (fun s_ => [(40, s_.1), (42, .int .i64 t319)]) (fun s_ w' => (w'.cell? ⟨gb299, 0, none⟩ = some (.int .i64 t288) ∧ w'.cell? ⟨gb299, 1, none⟩ = some (.slice Ao9 t289.length co9) ∧ w'.cell? ⟨gb299, 2, none⟩ = some (.slice Ao10 t292.length co10) ∧ w'.cell? ⟨gb299, 3, none⟩ = some (.slice Ao11 t295.length co11)) ∧ (Kd.R (Kd.int .i64) 2 w' w.heap.size (fun k_ => (w.heap.size ≤ k_) ∧ some k_ ≠ (.slice Ao9 t289.length co9 : Value).ownBlock ∧ some k_ ≠ (.slice Ao10 t292.length co10 : Value).ownBlock ∧ some k_ ≠ (u5 : Value).ownBlock) s_.1 y316) ∧ (Kd.R (Kd.int .i64) 2 w' w.heap.size (fun k_ => (w.heap.size ≤ k_) ∧ some k_ ≠ (s_.1 : Value).ownBlock ∧ some k_ ≠ (.slice Ao10 t292.length co10 : Value).ownBlock ∧ some k_ ≠ (u5 : Value).ownBlock) (.slice Ao9 t289.length co9) t289) ∧ (Kd.R (Kd.int .i64) 2 w' w.heap.size (fun k_ => (w.heap.size ≤ k_) ∧ some k_ ≠ (s_.1 : Value).ownBlock ∧ some k_ ≠ (.slice Ao9 t289.length co9 : Value).ownBlock ∧ some k_ ≠ (u5 : Value).ownBlock) (.slice Ao10 t292.length co10) t292) ∧ (Kd.N k52 52 w' w.heap.size (fun k_ => (w.heap.size ≤ k_) ∧ some k_ ≠ (s_.1 : Value).ownBlock ∧ some k_ ≠ (.slice Ao9 t289.length co9 : Value).ownBlock ∧ some k_ ≠ (.slice Ao10 t292.length co10 : Value).ownBlock ∧ some k_ ≠ (u5 : Value).ownBlock ∧ k_ ≠ g ∧ k_ ≠ gb287 ∧ k_ ≠ gb299) (.slice Ao11 t295.length co11) t295) ∧ (Kd.R (Kd.int .i64) 2 w' w.heap.size (fun k_ => (w.heap.size ≤ k_) ∧ some k_ ≠ (s_.1 : Value).ownBlock ∧ some k_ ≠ (.slice Ao9 t289.length co9 : Value).ownBlock ∧ some k_ ≠ (.slice Ao10 t292.length co10 : Value).ownBlock) u5 x5_1) ∧ (∃ c_, (s_.1 : Value) = .slice (some s_.2) y316.length c_) ∧ (w'.heap[gb287]? = some (.cells #[.int .i64 0, .slice none 0 0, .slice none 0 0, .slice none 0 0] 30 (0, 0))) ∧ (w'.heap[gb299]? = some (.cells #[.int .i64 t288, .slice Ao9 t289.length co9, .slice Ao10 t292.length co10, .slice Ao11 t295.length co11] 30 (0, 0))) ∧ (IsS77 w0 w' g s0_0 t320) ∧ (KeepBut w w' g none) ∧ (Below w0.heap.size w0 w')) ?_ ?_
      rotate_left
      ·intro hCont
       refine two_ (i := 2) (j := 4) (Ni := some 40) (Nj := some 42) #[true, true, true, true, false, false, false, false, false] #[true, true, false, true, true, false, false, false, false] rfl rfl rfl rfl (two_of HT_.out (by kernel_rfl)) (by decide) (by decide) (fun K hK => ?_) (fun K hK => ?_)
       ·skip
        refine Kd.R_lit_step (Kd.int .i64) _ 2 ?hg (N := 40) ?hd (xs := ([0, 5, 6] : List Int)) (inner := [.int .i64 0, .int .i64 5, .int .i64 6]) (ok := fun _ => True) (okp := fun _ => True) ?hr ?hp (fun _ hk => hk) trivial (Below.refl _ _) (Nat.le_refl _) (by simp) ?_; (case hd => rfl); (case hg => rfl); (case hr => first | (go_simp; done) | (go_simp; rfl)); (case hp => exact (Reps.one (show Kd.M (Kd.int .i64) _ _ _ 0 [.int .i64 0] from rfl) (Reps.one (show Kd.M (Kd.int .i64) _ _ _ 5 [.int .i64 5] from rfl) (Reps.one (show Kd.M (Kd.int .i64) _ _ _ 6 [.int .i64 6] from rfl) (Reps.none _ _)))))
        intro v317 w53 ho54 hb hg_ hnew_
        clear hg_ hnew_
        (first | rw [← Ny316.out] at ho54 | (simp only [Int.reduceToNat] at ho54; rw [← Ny316.out] at ho54))
        replace HO_300003 := Aside0.mk (Kd.N_elder' (by (with_reducible repeat (first | apply Kd.N_alloc | apply Kd.N_drewN | apply Kd.N_drew)); exact HO_300003.out) (Kd.R_base ho54) hb)
        have HO318 := Aside0.mk (Kd.R_lower (Kd.R_new' (Kd.R_new' (Kd.R_new' (Kd.R_newM (M := fun k_ => (w.heap.size ≤ k_)) ho54 (keep_size (w := w) (g := g) (row := none) sAKeep_12) (fun k_ h_ => h_)) (rLt_ HO_5)) (rLt_ HO_300001)) (rLt_ HO_300002)) (keep_size (w := w) (g := g) (row := none) sAKeep_12))
        replace HO_5 := rE_ HO_5 ho54 hb; replace HO_300001 := rE_ HO_300001 ho54 hb; replace HO_300002 := rE_ HO_300002 ho54 hb; replace BK287 := bB_ BK287 hb; replace BK299 := bB_ BK299 hb
        replace HK := Aside0.mk (KeepBut.trans (w := w) (row := none) sAKeep_12 (KeepBut.of_below hb g none) (.inl rfl))
        replace HB := Aside0.mk (below_step sABelo_12 hb)
        replace HI0 := Aside0.mk (IsS77.below sAIsS77_12 hb)
        clear hb ho54
        obtain ⟨Ao55, co55, eo55⟩ := Kd.R_slice HO318.out
        subst eo55
        obtain ⟨ado55, fo55, _⟩ := Kd.at_int (Kd.R_reads' HO318.out).2.2 0 (by decide) (by rw [Ny316.out]; simp)
        cases fo55
        refine hK.out _ _ ⟨(blk_cell BK299.out 0).trans rfl, (blk_cell BK299.out 1).trans rfl, (blk_cell BK299.out 2).trans rfl, (blk_cell BK299.out 3).trans rfl⟩ (fun hHeld => ?_)
        clear hK K
        refine nS_ (some 40) ?_
        refine one_ (i := 4) (N := some 42) #[true, true, true, true, true, false, false, false, false] rfl rfl (one_of HT_.out (by kernel_rfl)) (by decide) (fun K hK => ?_)
        refine goes_ Try.func45 (by kernel_rfl) rfl #[.pointer (some ⟨g, 0, none⟩), .int .i64 3] (by rfl) rfl rfl (by (try simp only [List.map_toArray, List.map_cons, List.map_nil]); first | done | rfl | (simp only [List.length_drop, List.length_take]; rfl)) ?_
        with_reducible refine (spec_l1Rd_below.calls g s0_0 t309 3 t319 t320 w0 _ ?side1 ?side2 A43.out).mono ?_
        (case side1 => repeat (first | (with_reducible first | exact HI0.out | apply IsS77.alloc | apply IsS77.drewN | apply IsS77.drew | apply IsS77.set_1 | refine IsS77.far ?_ NB0_287.out _ | refine IsS77.far ?_ NB0_299.out _) | exact HI0.out))
        (case side2 => repeat (first | (with_reducible first | exact HB.out | apply below_alloc | apply pw_below_drewN | apply below_drew1 | refine below_set ?_ (IsS77.ge HI0.out) | refine below_set ?_ GE287.out | refine below_set ?_ GE299.out) | exact HB.out))
        rintro e w56 ⟨rfl, hi, hb, hk⟩
        refine ⟨_, rfl, ?_⟩
        replace HO_5 := Aside0.mk (Kd.R_mono (Kd.R_keep (IsS77.apart (show IsS77 w0 _ g s0_0 t309 from sAIsS77_12) (rT_ HO_5) (by decide)) hk (fun _ h => h.2)) (fun _ h => h.1))
        replace HO_300001 := Aside0.mk (Kd.R_mono (Kd.R_keep (IsS77.apart (show IsS77 w0 _ g s0_0 t309 from sAIsS77_12) (rT_ HO_300001) (by decide)) hk (fun _ h => h.2)) (fun _ h => h.1))
        replace HO_300002 := Aside0.mk (Kd.R_mono (Kd.R_keep (IsS77.apart (show IsS77 w0 _ g s0_0 t309 from sAIsS77_12) (rT_ HO_300002) (by decide)) hk (fun _ h => h.2)) (fun _ h => h.1))
        replace HO_300003 := Aside0.mk (Kd.N_mono (Kd.N_keep (Kd.N_mono (ok := fun k_ => ((((w.heap.size ≤ k_)) ∧ (some k_ ≠ (u5 : Value).ownBlock ∧ (some k_ ≠ (.slice Ao9 t289.length co9 : Value).ownBlock ∧ (some k_ ≠ (.slice Ao10 t292.length co10 : Value).ownBlock ∧ (k_ ≠ gb287 ∧ (k_ ≠ gb299 ∧ k_ ≠ g)))))) ∧ some k_ ≠ (.slice (some ado55) y316.length co55 : Value).ownBlock)) (by (with_reducible repeat (first | apply Kd.N_alloc | apply Kd.N_drewN | apply Kd.N_drew)); exact HO_300003.out) (fun k_ hk_ => (⟨hk_, hk_.1.2.2.2.2.2.2⟩ : _ ∧ k_ ≠ g))) hk (fun _ h => h.2)) (fun _ h => h.1))
        replace BK287 := Aside0.mk (KeepBut.blk hk (g' := gb287) (o := .cells #[.int .i64 0, .slice none 0 0, .slice none 0 0, .slice none 0 0] 30 (0, 0)) (bT_ BK287) NB287_0.out (by simp))
        replace BK299 := Aside0.mk (KeepBut.blk hk (g' := gb299) (o := .cells #[.int .i64 t288, .slice Ao9 t289.length co9, .slice Ao10 t292.length co10, .slice Ao11 t295.length co11] 30 (0, 0)) (bT_ BK299) NB299_0.out (by simp))
        replace HO318 := Aside0.mk (Kd.R_mono (Kd.R_keep (IsS77.apart (show IsS77 w0 _ g s0_0 t309 from sAIsS77_12) (rT_ HO318) (by decide)) hk (fun _ h => h.2)) (fun _ h => h.1))
        replace HK := Aside0.mk (KeepBut.trans (w := w) (row := none) sAKeep_12 hk (.inl rfl))
        replace HB := Aside0.mk (hb)
        replace HI0 := Aside0.mk (hi)
        (try clear hb); (try clear hk); (try clear hi)
        refine hK.out _ _ ⟨(blk_cell BK299.out 0).trans rfl, (blk_cell BK299.out 1).trans rfl, (blk_cell BK299.out 2).trans rfl, (blk_cell BK299.out 3).trans rfl⟩ (fun hHeld => ?_)
        clear hK K
        refine nS_ (some 42) ?_
        exact norm_ (by simp only [putAll, Act.put, List.setIfInBounds_toArray, List.set_cons_zero, List.set_cons_succ]) (hCont (.slice (some ado55) y316.length co55, ado55) _ ⟨hHeld, (rM_ HO318), (rM_ HO_300001), (rM_ HO_300002), (by (with_reducible repeat (first | apply Kd.N_alloc | apply Kd.N_drewN | apply Kd.N_drew)); exact Kd.N_mono HO_300003.out (fun _ hk => ⟨hk.1.1, ⟨hk.2, ⟨hk.1.2.2.1, ⟨hk.1.2.2.2.1, ⟨hk.1.2.1, ⟨hk.1.2.2.2.2.2.2, ⟨hk.1.2.2.2.2.1, hk.1.2.2.2.2.2.1⟩⟩⟩⟩⟩⟩⟩)), (rM_ HO_5), ⟨_, rfl⟩, (bT_ BK287), (bT_ BK299), sAIsS77_12, sAKeep_12, sABelo_12⟩)
       ·skip
        refine goes_ Try.func45 (by kernel_rfl) rfl #[.pointer (some ⟨g, 0, none⟩), .int .i64 3] (by rfl) rfl rfl (by (try simp only [List.map_toArray, List.map_cons, List.map_nil]); first | done | rfl | (simp only [List.length_drop, List.length_take]; rfl)) ?_
        with_reducible refine (spec_l1Rd_below.calls g s0_0 t309 3 t319 t320 w0 _ ?side1 ?side2 A43.out).mono ?_
        (case side1 => repeat (first | (with_reducible first | exact HI0.out | apply IsS77.alloc | apply IsS77.drewN | apply IsS77.drew | apply IsS77.set_1 | refine IsS77.far ?_ NB0_287.out _ | refine IsS77.far ?_ NB0_299.out _) | exact HI0.out))
        (case side2 => repeat (first | (with_reducible first | exact HB.out | apply below_alloc | apply pw_below_drewN | apply below_drew1 | refine below_set ?_ (IsS77.ge HI0.out) | refine below_set ?_ GE287.out | refine below_set ?_ GE299.out) | exact HB.out))
        rintro e w53 ⟨rfl, hi, hb, hk⟩
        refine ⟨_, rfl, ?_⟩
        replace HO_5 := Aside0.mk (Kd.R_mono (Kd.R_keep (IsS77.apart (show IsS77 w0 _ g s0_0 t309 from sAIsS77_12) (rT_ HO_5) (by decide)) hk (fun _ h => h.2)) (fun _ h => h.1))
        replace HO_300001 := Aside0.mk (Kd.R_mono (Kd.R_keep (IsS77.apart (show IsS77 w0 _ g s0_0 t309 from sAIsS77_12) (rT_ HO_300001) (by decide)) hk (fun _ h => h.2)) (fun _ h => h.1))
        replace HO_300002 := Aside0.mk (Kd.R_mono (Kd.R_keep (IsS77.apart (show IsS77 w0 _ g s0_0 t309 from sAIsS77_12) (rT_ HO_300002) (by decide)) hk (fun _ h => h.2)) (fun _ h => h.1))
        replace HO_300003 := Aside0.mk (Kd.N_mono (Kd.N_keep (Kd.N_mono (ok := fun k_ => (((w.heap.size ≤ k_)) ∧ (some k_ ≠ (u5 : Value).ownBlock ∧ (some k_ ≠ (.slice Ao9 t289.length co9 : Value).ownBlock ∧ (some k_ ≠ (.slice Ao10 t292.length co10 : Value).ownBlock ∧ (k_ ≠ gb287 ∧ (k_ ≠ gb299 ∧ k_ ≠ g))))))) (by (with_reducible repeat (first | apply Kd.N_alloc | apply Kd.N_drewN | apply Kd.N_drew)); exact HO_300003.out) (fun k_ hk_ => (⟨hk_, hk_.2.2.2.2.2.2⟩ : _ ∧ k_ ≠ g))) hk (fun _ h => h.2)) (fun _ h => h.1))
        replace BK287 := Aside0.mk (KeepBut.blk hk (g' := gb287) (o := .cells #[.int .i64 0, .slice none 0 0, .slice none 0 0, .slice none 0 0] 30 (0, 0)) (bT_ BK287) NB287_0.out (by simp))
        replace BK299 := Aside0.mk (KeepBut.blk hk (g' := gb299) (o := .cells #[.int .i64 t288, .slice Ao9 t289.length co9, .slice Ao10 t292.length co10, .slice Ao11 t295.length co11] 30 (0, 0)) (bT_ BK299) NB299_0.out (by simp))
        replace HK := Aside0.mk (KeepBut.trans (w := w) (row := none) sAKeep_12 hk (.inl rfl))
        replace HB := Aside0.mk (hb)
        replace HI0 := Aside0.mk (hi)
        (try clear hb); (try clear hk); (try clear hi)
        refine hK.out _ _ ⟨(blk_cell BK299.out 0).trans rfl, (blk_cell BK299.out 1).trans rfl, (blk_cell BK299.out 2).trans rfl, (blk_cell BK299.out 3).trans rfl⟩ (fun hHeld => ?_)
        clear hK K
        refine nS_ (some 42) ?_
        refine one_ (i := 2) (N := some 40) #[true, true, true, true, true, false, false, false, false] rfl rfl (one_of HT_.out (by kernel_rfl)) (by decide) (fun K hK => ?_)
        refine Kd.R_lit_step (Kd.int .i64) _ 2 ?hg (N := 40) ?hd (xs := ([0, 5, 6] : List Int)) (inner := [.int .i64 0, .int .i64 5, .int .i64 6]) (ok := fun _ => True) (okp := fun _ => True) ?hr ?hp (fun _ hk => hk) trivial (Below.refl _ _) (Nat.le_refl _) (by simp) ?_; (case hd => rfl); (case hg => rfl); (case hr => first | (go_simp; done) | (go_simp; rfl)); (case hp => exact (Reps.one (show Kd.M (Kd.int .i64) _ _ _ 0 [.int .i64 0] from rfl) (Reps.one (show Kd.M (Kd.int .i64) _ _ _ 5 [.int .i64 5] from rfl) (Reps.one (show Kd.M (Kd.int .i64) _ _ _ 6 [.int .i64 6] from rfl) (Reps.none _ _)))))
        intro v317 w54 ho55 hb hg_ hnew_
        clear hg_ hnew_
        (first | rw [← Ny316.out] at ho55 | (simp only [Int.reduceToNat] at ho55; rw [← Ny316.out] at ho55))
        replace HO_300003 := Aside0.mk (Kd.N_elder' (by (with_reducible repeat (first | apply Kd.N_alloc | apply Kd.N_drewN | apply Kd.N_drew)); exact HO_300003.out) (Kd.R_base ho55) hb)
        have HO318 := Aside0.mk (Kd.R_lower (Kd.R_new' (Kd.R_new' (Kd.R_new' (Kd.R_newM (M := fun k_ => (w.heap.size ≤ k_)) ho55 (keep_size (w := w) (g := g) (row := none) sAKeep_12) (fun k_ h_ => h_)) (rLt_ HO_5)) (rLt_ HO_300001)) (rLt_ HO_300002)) (keep_size (w := w) (g := g) (row := none) sAKeep_12))
        replace HO_5 := rE_ HO_5 ho55 hb; replace HO_300001 := rE_ HO_300001 ho55 hb; replace HO_300002 := rE_ HO_300002 ho55 hb; replace BK287 := bB_ BK287 hb; replace BK299 := bB_ BK299 hb
        replace HK := Aside0.mk (KeepBut.trans (w := w) (row := none) sAKeep_12 (KeepBut.of_below hb g none) (.inl rfl))
        replace HB := Aside0.mk (below_step sABelo_12 hb)
        replace HI0 := Aside0.mk (IsS77.below sAIsS77_12 hb)
        clear hb ho55
        obtain ⟨Ao56, co56, eo56⟩ := Kd.R_slice HO318.out
        subst eo56
        obtain ⟨ado56, fo56, _⟩ := Kd.at_int (Kd.R_reads' HO318.out).2.2 0 (by decide) (by rw [Ny316.out]; simp)
        cases fo56
        refine hK.out _ _ ⟨(blk_cell BK299.out 0).trans rfl, (blk_cell BK299.out 1).trans rfl, (blk_cell BK299.out 2).trans rfl, (blk_cell BK299.out 3).trans rfl⟩ (fun hHeld => ?_)
        clear hK K
        refine nS_ (some 40) ?_
        exact norm_ (by simp only [putAll, Act.put, List.setIfInBounds_toArray, List.set_cons_zero, List.set_cons_succ]) (hCont (.slice (some ado56) y316.length co56, ado56) _ ⟨hHeld, (rM_ HO318), (rM_ HO_300001), (rM_ HO_300002), (by (with_reducible repeat (first | apply Kd.N_alloc | apply Kd.N_drewN | apply Kd.N_drew)); exact Kd.N_mono HO_300003.out (fun _ hk => ⟨hk.1.1, ⟨hk.2, ⟨hk.1.2.2.1, ⟨hk.1.2.2.2.1, ⟨hk.1.2.1, ⟨hk.1.2.2.2.2.2.2, ⟨hk.1.2.2.2.2.1, hk.1.2.2.2.2.2.1⟩⟩⟩⟩⟩⟩⟩)), (rM_ HO_5), ⟨_, rfl⟩, (bT_ BK287), (bT_ BK299), sAIsS77_12, sAKeep_12, sABelo_12⟩)
      rintro ⟨v317, adz_v317⟩ w57 ⟨hS_, h0_, h1_, h2_, h3_, h4_, h5_, h6_, h7_, h8_, h9_, h10_⟩
      try dsimp only at h0_ h1_ h2_ h3_ h4_ h5_ h6_ h7_ h8_ h9_ h10_
      have HO318 := Aside0.mk h0_; replace HO_300001 := Aside0.mk h1_; replace HO_300002 := Aside0.mk h2_; replace HO_300003 := Aside0.mk h3_; replace HO_5 := Aside0.mk h4_; have HA_HO318 := Aside0.mk h5_; replace BK287 := Aside0.mk h6_; replace BK299 := Aside0.mk h7_; replace HI0 := Aside0.mk h8_; replace HK := Aside0.mk h9_; replace HB := Aside0.mk h10_; clear h0_ h1_ h2_ h3_ h4_ h5_ h6_ h7_ h8_ h9_ h10_
      have hHeld : w57.cell? ⟨gb299, 0, none⟩ = some (.int .i64 t288) ∧ w57.cell? ⟨gb299, 1, none⟩ = some (.slice Ao9 t289.length co9) ∧ w57.cell? ⟨gb299, 2, none⟩ = some (.slice Ao10 t292.length co10) ∧ w57.cell? ⟨gb299, 3, none⟩ = some (.slice Ao11 t295.length co11) := hS_
      obtain ⟨co58, eo58⟩ := HA_HO318.out
      clear HA_HO318
      subst eo58
      have p47 : 0 ≤ (0 : Int) := (by omega)
      have q47 : (0 : Int) < ((t292.length : Int) : Int) := dA_
      have qi47 : (0 < t292.length) = True := eq_true (by omega)
      obtain ⟨go47, co47, eo47, gb47, gl47, cl47, HG47⟩ := Kd.R_form HO_300002.out (by omega)
      (first | cases eo47 | (injection eo47 with ea_ en_ ec_; (first | subst ea_ | (injection ea_ with ea_; subst ea_)); subst ec_; clear en_))
      have GB47 := Aside0.mk gb47; have GL47 := Aside0.mk (Nat.le_trans HL.out GB47.out); have GG47 := Aside0.mk HG47; clear gb47 gl47 HG47
      obtain ⟨hx47_0, hf47_0⟩ := Kd.R_celln 0 HO_300002.out (0 : Int) p47 q47
      (try rw [show ((0 : Int)).toNat = 0 from rfl] at hx47_0)
      (try simp only [Nat.reduceMul, Nat.zero_mul, Nat.zero_add, Nat.reduceAdd] at hx47_0)
      (try rw [show ((0 : Int)).toNat = 0 from rfl] at hf47_0)
      (try simp only [Nat.reduceMul, Nat.zero_mul, Nat.zero_add, Nat.reduceAdd] at hf47_0)
      replace p47 := eq_true p47; replace q47 := eq_true q47
      have HN0_go47 := Aside0.mk (show g ≠ go47 from by have h_ := IsS77.own_ne HI0.out HO_300002.out (by decide); intro e_; exact h_ (by rw [e_]; rfl))
      have HP59 := Kd.R_putn HO_300002.out (0 : Int) (rd y316 t319)
      rw [← Ny322.out] at HP59
      have HQ59 := Aside0.mk HP59; clear HP59
      refine norm_ (a' := ?_) ?_ ?_
      rotate_left
      ·simp only [putAll, Act.put, List.setIfInBounds_toArray, List.set_cons_zero, List.set_cons_succ]
       rfl
      refine pT_ 5 (some 43) #[true, true, true, true, true, true, false, false, false] HT_ ?_
      refine one_ (i := 6) (N := some 44) #[true, true, true, true, true, true, true, false, false] rfl rfl (one_of HT_.out (by kernel_rfl)) (by decide) (fun K hK => ?_)
      (have p321 : 0 ≤ (t319 : Int) := dA_; have q321 : t319 < (y316.length : Int) := dA_; obtain ⟨ad321, e321, hx321_0⟩ := Kd.at_int (Kd.R_reads' HO318.out).2.2 t319 p321 q321; obtain rfl : adz_v317 = ad321 := (by injection e321))
      refine value_ (w1 := ?_) (v := ?_) (by rfl) rfl ?_ ?_
      rotate_left 2
      ·go_simp
       constructor
       ·rfl
       ·rfl
      clear hx321_0
      refine hK.out _ _ ⟨(blk_cell BK299.out 0).trans rfl, (blk_cell BK299.out 1).trans rfl, (blk_cell BK299.out 2).trans rfl, (blk_cell BK299.out 3).trans rfl⟩ (fun hHeld => ?_)
      clear hK K
      refine nS_ (some 44) ?_
      refine pT_ 7 (some 45) #[true, true, true, true, true, true, true, true, false] HT_ ?_
      refine last_ (i := 8) (N := none) #[true, true, true, true, true, true, true, true, true] rfl rfl (one_of HT_.out (by kernel_rfl)) (by decide) (fun K hK => ?_)
      refine skip_ (w1 := ?_) (by rfl) rfl ?_ ?_
      rotate_left
      ·go_simp
       rfl
      refine hK.out _ _ ?_
      clear hK K
      refine done_ (done_of HT_.out (by kernel_rfl)) ?_
      have n0_ : Aside0 (Kd.R (Kd.int .i64) 2 (w57.setCell ⟨go47, 0, none⟩ (.int .i64 (rd y316 t319))) w.heap.size (fun k_ => (w.heap.size ≤ k_) ∧ some k_ ≠ (.slice Ao9 t289.length co9 : Value).ownBlock ∧ some k_ ≠ (.slice (some ⟨go47, 0, none⟩) t292.length co10 : Value).ownBlock ∧ some k_ ≠ (.slice (some adz_v317) y316.length co58 : Value).ownBlock) u5 x5_1) := ⟨by (with_reducible repeat (first | apply Kd.R_alloc | apply Kd.R_drewN | apply Kd.R_drew)); exact Kd.R_mono (Kd.R_far (p := ⟨go47, 0, none⟩) (Kd.R_mono HO_5.out (fun k_ hk => (⟨hk, fun e_ => hk.2.2.2 (by rw [e_]; rfl)⟩ : _ ∧ k_ ≠ go47))) (fun _ hk => hk.2) (.int .i64 (rd y316 t319))) (fun _ hk => ⟨hk.1.1, ⟨hk.1.2.2.1, ⟨hk.1.2.2.2, hk.1.2.1⟩⟩⟩)⟩
      have n1_ : Aside0 (Kd.R (Kd.int .i64) 2 (w57.setCell ⟨go47, 0, none⟩ (.int .i64 (rd y316 t319))) w.heap.size (fun k_ => (w.heap.size ≤ k_) ∧ some k_ ≠ (u5 : Value).ownBlock ∧ some k_ ≠ (.slice (some ⟨go47, 0, none⟩) t292.length co10 : Value).ownBlock ∧ some k_ ≠ (.slice (some adz_v317) y316.length co58 : Value).ownBlock) (.slice Ao9 t289.length co9) t289) := ⟨by (with_reducible repeat (first | apply Kd.R_alloc | apply Kd.R_drewN | apply Kd.R_drew)); exact Kd.R_mono (Kd.R_far (p := ⟨go47, 0, none⟩) (Kd.R_mono HO_300001.out (fun k_ hk => (⟨hk, fun e_ => hk.2.2.1 (by rw [e_]; rfl)⟩ : _ ∧ k_ ≠ go47))) (fun _ hk => hk.2) (.int .i64 (rd y316 t319))) (fun _ hk => ⟨hk.1.1, ⟨hk.1.2.2.2, ⟨hk.1.2.2.1, hk.1.2.1⟩⟩⟩)⟩
      have n2_ : Aside0 (Kd.R (Kd.int .i64) 2 (w57.setCell ⟨go47, 0, none⟩ (.int .i64 (rd y316 t319))) w.heap.size (fun k_ => (w.heap.size ≤ k_) ∧ some k_ ≠ (u5 : Value).ownBlock ∧ some k_ ≠ (.slice Ao9 t289.length co9 : Value).ownBlock ∧ some k_ ≠ (.slice (some adz_v317) y316.length co58 : Value).ownBlock) (.slice (some ⟨go47, 0, none⟩) t292.length co10) y322) := ⟨Kd.R_mono HQ59.out (by intro k hk; revert hk; simp only [and_imp]; intros; and_intros <;> assumption)⟩
      have n3_ : Aside0 (Kd.N k52 52 (w57.setCell ⟨go47, 0, none⟩ (.int .i64 (rd y316 t319))) w.heap.size (fun k_ => (w.heap.size ≤ k_) ∧ some k_ ≠ (u5 : Value).ownBlock ∧ some k_ ≠ (.slice Ao9 t289.length co9 : Value).ownBlock ∧ some k_ ≠ (.slice (some ⟨go47, 0, none⟩) t292.length co10 : Value).ownBlock ∧ some k_ ≠ (.slice (some adz_v317) y316.length co58 : Value).ownBlock ∧ k_ ≠ g ∧ k_ ≠ gb287 ∧ k_ ≠ gb299) (.slice Ao11 t295.length co11) t295) := ⟨by (with_reducible repeat (first | apply Kd.N_alloc | apply Kd.N_drewN | apply Kd.N_drew)); exact Kd.N_mono (Kd.N_far (p := ⟨go47, 0, none⟩) (Kd.N_mono HO_300003.out (fun k_ hk => (⟨hk, fun e_ => hk.2.2.2.1 (by rw [e_]; rfl)⟩ : _ ∧ k_ ≠ go47))) (fun _ hk => hk.2) (.int .i64 (rd y316 t319))) (fun _ hk => ⟨hk.1.1, ⟨hk.1.2.2.2.2.1, ⟨hk.1.2.2.1, ⟨hk.1.2.2.2.1, ⟨hk.1.2.1, ⟨hk.1.2.2.2.2.2.1, ⟨hk.1.2.2.2.2.2.2.1, hk.1.2.2.2.2.2.2.2⟩⟩⟩⟩⟩⟩⟩)⟩
      have n4_ : Aside0 (Kd.R (Kd.int .i64) 2 (w57.setCell ⟨go47, 0, none⟩ (.int .i64 (rd y316 t319))) w.heap.size (fun k_ => (w.heap.size ≤ k_) ∧ some k_ ≠ (u5 : Value).ownBlock ∧ some k_ ≠ (.slice Ao9 t289.length co9 : Value).ownBlock ∧ some k_ ≠ (.slice (some ⟨go47, 0, none⟩) t292.length co10 : Value).ownBlock) (.slice (some adz_v317) y316.length co58) y316) := ⟨by (with_reducible repeat (first | apply Kd.R_alloc | apply Kd.R_drewN | apply Kd.R_drew)); exact Kd.R_mono (Kd.R_far (p := ⟨go47, 0, none⟩) (Kd.R_mono HO318.out (fun k_ hk => (⟨hk, fun e_ => hk.2.2.1 (by rw [e_]; rfl)⟩ : _ ∧ k_ ≠ go47))) (fun _ hk => hk.2) (.int .i64 (rd y316 t319))) (fun _ hk => ⟨hk.1.1, ⟨hk.1.2.2.2, ⟨hk.1.2.1, hk.1.2.2.1⟩⟩⟩)⟩
      have n5_ : Aside0 ((w57.setCell ⟨go47, 0, none⟩ (.int .i64 (rd y316 t319))).heap[gb287]? = some (.cells #[.int .i64 0, .slice none 0 0, .slice none 0 0, .slice none 0 0] 30 (0, 0))) := ⟨by (with_reducible repeat (first | refine blk_drewN ?_ _ | refine blk_drew ?_ | refine blk_alloc ?_ _)); refine blk_far ?_ (by have h_ := Kd.R_ne HO_300002.out BK287.out (by decide); intro e_; exact h_ (by rw [e_]; rfl)) _; exact bT_ BK287⟩
      have n6_ : Aside0 ((w57.setCell ⟨go47, 0, none⟩ (.int .i64 (rd y316 t319))).heap[gb299]? = some (.cells #[.int .i64 t288, .slice Ao9 t289.length co9, .slice (some ⟨go47, 0, none⟩) t292.length co10, .slice Ao11 t295.length co11] 30 (0, 0))) := ⟨by (with_reducible repeat (first | refine blk_drewN ?_ _ | refine blk_drew ?_ | refine blk_alloc ?_ _)); refine blk_far ?_ (by have h_ := Kd.R_ne HO_300002.out BK299.out (by decide); intro e_; exact h_ (by rw [e_]; rfl)) _; exact bT_ BK299⟩
      have n7_ : Aside0 (IsS77 w0 (w57.setCell ⟨go47, 0, none⟩ (.int .i64 (rd y316 t319))) g s0_0 t320) := ⟨sAIsS77_12⟩
      have n8_ : Aside0 (KeepBut w (w57.setCell ⟨go47, 0, none⟩ (.int .i64 (rd y316 t319))) g none) := ⟨sAKeep_12⟩
      have n9_ : Aside0 (Below w0.heap.size w0 (w57.setCell ⟨go47, 0, none⟩ (.int .i64 (rd y316 t319)))) := ⟨sABelo_12⟩
      (try clear HO_5); (try clear HO_300001); (try clear HO_300002); (try clear HO_300003); (try clear HO318); (try clear BK287); (try clear BK299); (try clear HI0); (try clear HK); (try clear HB)
      generalize (w57.setCell ⟨go47, 0, none⟩ (.int .i64 (rd y316 t319))) = w60 at n0_ n1_ n2_ n3_ n4_ n5_ n6_ n7_ n8_ n9_ ⊢
      have HO_5 := n0_; have HO_300001 := n1_; have HO_300002 := n2_; have HO_300003 := n3_; have HO318 := n4_; have BK287 := n5_; have BK299 := n6_; have HI0 := n7_; have HK := n8_; have HB := n9_; clear n0_ n1_ n2_ n3_ n4_ n5_ n6_ n7_ n8_ n9_
      obtain ⟨hcz61_0, hcz61_1, hcz61_2, hcz61_3, hfz61_0, hfz61_1, hfz61_2, hfz61_3⟩ := cf4_ BK299; have hnb62 := NB287_0.out; have hnc62 := NB0_287.out
      obtain ⟨hcz63_0, hcz63_1, hcz63_2, hcz63_3, hfz63_0, hfz63_1, hfz63_2, hfz63_3⟩ := cf4_ BK287
      try go_wp2
      refine bodyPost_ret (results_ct rfl _ _ gb287 30 #[.int .i64 t288, .slice Ao9 t289.length co9, .slice (some ⟨go47, 0, none⟩) t292.length co10, .slice Ao11 t295.length co11] (0, 0) _ rfl (bP_ BK287) Try.underlying30 rfl (by kernel_rfl)) rfl ?_
      exact ⟨_, _, _, _, by first | rfl | (simp [errW_none, errW_some] <;> rfl) | (simp [*, errW_none, errW_some] <;> rfl), by (with_reducible repeat (first | apply Kd.R_alloc | apply Kd.R_drewN | apply Kd.R_drew)); exact Kd.R_mono (Kd.R_far (p := ⟨gb287, 3, none⟩) (Kd.R_far (p := ⟨gb287, 2, none⟩) (Kd.R_far (p := ⟨gb287, 1, none⟩) (Kd.R_far (p := ⟨gb287, 0, none⟩) (Kd.R_types HO_300001.out BK287.out (by decide)) (fun _ hk => hk.2) (.int .i64 t288)) (fun _ hk => hk.2) (.slice Ao9 t289.length co9)) (fun _ hk => hk.2) (.slice (some ⟨go47, 0, none⟩) t292.length co10)) (fun _ hk => hk.2) (.slice Ao11 t295.length co11)) (fun _ hk => ⟨hk.1.1, ⟨hk.1.2.2.1, hk.1.2.1⟩⟩), by (with_reducible repeat (first | apply Kd.R_alloc | apply Kd.R_drewN | apply Kd.R_drew)); exact Kd.R_mono (Kd.R_far (p := ⟨gb287, 3, none⟩) (Kd.R_far (p := ⟨gb287, 2, none⟩) (Kd.R_far (p := ⟨gb287, 1, none⟩) (Kd.R_far (p := ⟨gb287, 0, none⟩) (Kd.R_types HO_300002.out BK287.out (by decide)) (fun _ hk => hk.2) (.int .i64 t288)) (fun _ hk => hk.2) (.slice Ao9 t289.length co9)) (fun _ hk => hk.2) (.slice (some ⟨go47, 0, none⟩) t292.length co10)) (fun _ hk => hk.2) (.slice Ao11 t295.length co11)) (fun _ hk => ⟨hk.1.1, ⟨hk.1.2.2.1, hk.1.2.1⟩⟩), by (with_reducible repeat (first | apply Kd.N_alloc | apply Kd.N_drewN | apply Kd.N_drew)); exact Kd.N_mono (Kd.N_far (p := ⟨gb287, 3, none⟩) (Kd.N_far (p := ⟨gb287, 2, none⟩) (Kd.N_far (p := ⟨gb287, 1, none⟩) (Kd.N_far (p := ⟨gb287, 0, none⟩) (Kd.N_mono HO_300003.out (fun k_ hk => (⟨hk, hk.2.2.2.2.2.2.1⟩ : _ ∧ k_ ≠ gb287))) (fun _ hk => hk.2) (.int .i64 t288)) (fun _ hk => hk.2) (.slice Ao9 t289.length co9)) (fun _ hk => hk.2) (.slice (some ⟨go47, 0, none⟩) t292.length co10)) (fun _ hk => hk.2) (.slice Ao11 t295.length co11)) (fun _ hk => ⟨hk.1.1, ⟨hk.1.2.2.1, ⟨hk.1.2.2.2.1, hk.1.2.1⟩⟩⟩), by (with_reducible repeat (first | apply Kd.R_alloc | apply Kd.R_drewN | apply Kd.R_drew)); exact Kd.R_mono (Kd.R_far (p := ⟨gb287, 3, none⟩) (Kd.R_far (p := ⟨gb287, 2, none⟩) (Kd.R_far (p := ⟨gb287, 1, none⟩) (Kd.R_far (p := ⟨gb287, 0, none⟩) (Kd.R_types HO_5.out BK287.out (by decide)) (fun _ hk => hk.2) (.int .i64 t288)) (fun _ hk => hk.2) (.slice Ao9 t289.length co9)) (fun _ hk => hk.2) (.slice (some ⟨go47, 0, none⟩) t292.length co10)) (fun _ hk => hk.2) (.slice Ao11 t295.length co11)) (fun _ hk => ⟨hk.1.1, ⟨hk.1.2.1, hk.1.2.2.1⟩⟩), sAIsS77_12, sABelo_12, sAKeep_12⟩
     ·rw [if_neg c42] at H
      have c42b0 := beq_eq_false_iff_ne.mpr c42
      have c42b1 := bne_iff_ne.mpr c42
      by_cases c64 : t308 = 2
      ·rw [if_pos c64] at H
       have c64b0 := beq_iff_eq.mpr c64
       have c64b1 := bne_eq_false_iff_eq.mpr c64
       clear c64
       obtain ⟨y323, hy323⟩ : ∃ y_ : List Int, y_ = (([500, 501, (-501)] : List Int)) := ⟨_, rfl⟩
       replace H : ((spec_l1Rd_below.f s0_0 t309 3).bind fun bt326 => (if 0 ≤ bt326.1 then (if bt326.1 < (y323.length : Int) then (if 0 < (t289.length : Int) then (some (t288, (t289.set (0 : Int).toNat (rd y323 bt326.1)), t292, t295, x5_1, bt326.2)) else (none)) else (none)) else (none))) = some (r1, r2, r3, r4, r5, r6) := by first | (rw [hy323]; with_reducible exact H) | (have H2_ := (Option.bind_some _ _).symm.trans H; rw [hy323]; with_reducible exact H2_) | (have H2_ := (Option.bind_some _ _).symm.trans H; with_reducible exact H2_) | with_reducible exact H | (rw [hy323]; exact H) | exact H
       have Ny323 := Aside0.mk hy323; clear hy323; replace H := Option.bind_eq_some_iff.mp H
       obtain ⟨⟨t326, t327⟩, A650, H⟩ := H
       replace H : (if 0 ≤ t326 then (if t326 < (y323.length : Int) then (if 0 < (t289.length : Int) then (some (t288, (t289.set (0 : Int).toNat (rd y323 t326)), t292, t295, x5_1, t327)) else (none)) else (none)) else (none)) = some (r1, r2, r3, r4, r5, r6) := H
       have A65 := Aside0.mk A650; clear A650
       obtain ⟨c66, H⟩ := ifS_ H
       have c66b0 : decide (0 ≤ t326) = true := decide_eq_true c66
       clear c66
       obtain ⟨c67, H⟩ := ifS_ H
       have c67b0 : decide (t326 < (y323.length : Int)) = true := decide_eq_true c67
       clear c67
       obtain ⟨c68, H⟩ := ifS_ H
       have c68b0 : decide (0 < (t289.length : Int)) = true := decide_eq_true c68
       have c68b1 : decide (0 < t289.length) = true := decide_eq_true (by omega)
       clear c68
       obtain ⟨y329, hy329⟩ : ∃ y_ : List Int, y_ = (t289.set (0 : Int).toNat (rd y323 t326)) := ⟨_, rfl⟩
       replace H : (some (t288, y329, t292, t295, x5_1, t327)) = some (r1, r2, r3, r4, r5, r6) := by first | (rw [hy329]; with_reducible exact H) | (have H2_ := (Option.bind_some _ _).symm.trans H; rw [hy329]; with_reducible exact H2_) | (have H2_ := (Option.bind_some _ _).symm.trans H; with_reducible exact H2_) | with_reducible exact H | (rw [hy329]; exact H) | exact H
       have Ny329 := Aside0.mk hy329; clear hy329
       simp only [Option.some.injEq, Prod.mk.injEq] at H
       obtain ⟨rfl, rfl, rfl, rfl, rfl, rfl⟩ := H
       have hnb70 := NB299_287.out; have hnc70 := NB287_299.out; have hnb71 := NB299_0.out; have hnc71 := NB0_299.out
       obtain ⟨hcz72_0, hcz72_1, hcz72_2, hcz72_3, hfz72_0, hfz72_1, hfz72_2, hfz72_3⟩ := cf4_ BK299
       try go_wp2_with (first | ((with_reducible refine gate_callee (f := 45) rfl ?_); refine gL_ (some 24) Try.func45 #[.pointer (some ⟨g, 0, none⟩), .int .i64 30] ?_; (with_reducible refine (spec_l1Rd_below.calls g s0_0 x1001_1 30 t308 t309 w0 _ ?side1 ?side2 A22.out).mono ?_); (case side1 => repeat (first | (with_reducible first | exact HI0.out | apply IsS77.alloc | apply IsS77.drewN | apply IsS77.drew | apply IsS77.set_1 | refine IsS77.far ?_ NB0_287.out _ | refine IsS77.far ?_ NB0_299.out _) | exact HI0.out)); (case side2 => repeat (first | (with_reducible first | exact HB.out | apply below_alloc | apply pw_below_drewN | apply below_drew1 | refine below_set ?_ (IsS77.ge HI0.out) | refine below_set ?_ GE287.out | refine below_set ?_ GE299.out) | exact HB.out)); rintro e w73 ⟨rfl, hi, hb, hk⟩; refine ⟨_, rfl, ?_⟩; replace HO_5 := Aside0.mk (Kd.R_mono (Kd.R_keep (IsS77.apart (show IsS77 w0 _ g s0_0 x1001_1 from sAIsS77_12) (rT_ HO_5) (by decide)) hk (fun _ h => h.2)) (fun _ h => h.1)); replace HO_300001 := Aside0.mk (Kd.R_mono (Kd.R_keep (IsS77.apart (show IsS77 w0 _ g s0_0 x1001_1 from sAIsS77_12) (rT_ HO_300001) (by decide)) hk (fun _ h => h.2)) (fun _ h => h.1)); replace HO_300002 := Aside0.mk (Kd.R_mono (Kd.R_keep (IsS77.apart (show IsS77 w0 _ g s0_0 x1001_1 from sAIsS77_12) (rT_ HO_300002) (by decide)) hk (fun _ h => h.2)) (fun _ h => h.1)); replace HO_300003 := Aside0.mk (Kd.N_mono (Kd.N_keep (Kd.N_mono (ok := fun k_ => (((w.heap.size ≤ k_)) ∧ (some k_ ≠ (u5 : Value).ownBlock ∧ (some k_ ≠ (.slice Ao9 t289.length co9 : Value).ownBlock ∧ (some k_ ≠ (.slice Ao10 t292.length co10 : Value).ownBlock ∧ (k_ ≠ gb287 ∧ (k_ ≠ gb299 ∧ k_ ≠ g))))))) (by (with_reducible repeat (first | apply Kd.N_alloc | apply Kd.N_drewN | apply Kd.N_drew)); exact HO_300003.out) (fun k_ hk_ => (⟨hk_, hk_.2.2.2.2.2.2⟩ : _ ∧ k_ ≠ g))) hk (fun _ h => h.2)) (fun _ h => h.1)); replace BK287 := Aside0.mk (KeepBut.blk hk (g' := gb287) (o := .cells #[.int .i64 0, .slice none 0 0, .slice none 0 0, .slice none 0 0] 30 (0, 0)) (bT_ BK287) NB287_0.out (by simp)); replace BK299 := Aside0.mk (KeepBut.blk hk (g' := gb299) (o := .cells #[.int .i64 t288, .slice Ao9 t289.length co9, .slice Ao10 t292.length co10, .slice Ao11 t295.length co11] 30 (0, 0)) (bT_ BK299) NB299_0.out (by simp)); replace HK := Aside0.mk (KeepBut.trans (w := w) (row := none) sAKeep_12 hk (.inl rfl)); replace HB := Aside0.mk (hb); replace HI0 := Aside0.mk (hi); (try clear hb); (try clear hk); (try clear hi)))
       have pi328 : (0 ≤ (t326 : Int)) = True := eq_true dA_
       have qi328 : (t326 < (y323.length : Int)) = True := eq_true dA_
       replace HO_5 := Aside0.mk (Kd.R_drew HO_5.out)
       replace HO_300001 := Aside0.mk (Kd.R_drew HO_300001.out)
       replace HO_300002 := Aside0.mk (Kd.R_drew HO_300002.out)
       replace HO_300003 := Aside0.mk (Kd.N_drew HO_300003.out)
       replace BK287 := Aside0.mk (blk_drew BK287.out)
       replace BK299 := Aside0.mk (blk_drew BK299.out)
       replace HI0 := Aside0.mk (IsS77.drew HI0.out)
       replace HK := Aside0.mk (keep_drew HK.out)
       replace HB := Aside0.mk (below_drew1 HB.out)
       refine start_ (n := 9) (S := fun w' => w'.cell? ⟨gb299, 0, none⟩ = some (.int .i64 t288) ∧ w'.cell? ⟨gb299, 1, none⟩ = some (.slice Ao9 t289.length co9) ∧ w'.cell? ⟨gb299, 2, none⟩ = some (.slice Ao10 t292.length co10) ∧ w'.cell? ⟨gb299, 3, none⟩ = some (.slice Ao11 t295.length co11)) (ds := [8]) #[false, false, false, false, false, false, false, false, false] (by kernel_rfl) rfl rfl ⟨(blk_cell BK299.out 0).trans rfl, (blk_cell BK299.out 1).trans rfl, (blk_cell BK299.out 2).trans rfl, (blk_cell BK299.out 3).trans rfl⟩ (fun hHeld => ?_); refine with_tabW spec_l15Draw.tab13 spec_l15Draw.bits13 (fun HT_ HW_ => ?_)
       generalize w73.drew = w74 at HO_5 HO_300001 HO_300002 HO_300003 BK287 BK299 HI0 HK HB hHeld ⊢
       refine pT_ 0 (some 48) #[true, false, false, false, false, false, false, false, false] HT_ ?_
       refine pT_ 3 (some 51) #[true, false, false, true, false, false, false, false, false] HT_ ?_
       refine tT_ 1 (some 49) #[true, true, false, true, false, false, false, false, false] HT_ HW_ hHeld ?_ (hy := by rintro w' ⟨s0, s1, s2, s3⟩; go_simp; with_reducible rfl)
       refine join_ (σ := Value × Addr) 4 #[true, true, true, true, true, false, false, false, false] (fun s_ => [(50, s_.1), (52, .int .i64 t326)]) (fun s_ w' => (w'.cell? ⟨gb299, 0, none⟩ = some (.int .i64 t288) ∧ w'.cell? ⟨gb299, 1, none⟩ = some (.slice Ao9 t289.length co9) ∧ w'.cell? ⟨gb299, 2, none⟩ = some (.slice Ao10 t292.length co10) ∧ w'.cell? ⟨gb299, 3, none⟩ = some (.slice Ao11 t295.length co11)) ∧ (Kd.R (Kd.int .i64) 2 w' w.heap.size (fun k_ => (w.heap.size ≤ k_) ∧ some k_ ≠ (.slice Ao9 t289.length co9 : Value).ownBlock ∧ some k_ ≠ (.slice Ao10 t292.length co10 : Value).ownBlock ∧ some k_ ≠ (u5 : Value).ownBlock) s_.1 y323) ∧ (Kd.R (Kd.int .i64) 2 w' w.heap.size (fun k_ => (w.heap.size ≤ k_) ∧ some k_ ≠ (s_.1 : Value).ownBlock ∧ some k_ ≠ (.slice Ao10 t292.length co10 : Value).ownBlock ∧ some k_ ≠ (u5 : Value).ownBlock) (.slice Ao9 t289.length co9) t289) ∧ (Kd.R (Kd.int .i64) 2 w' w.heap.size (fun k_ => (w.heap.size ≤ k_) ∧ some k_ ≠ (s_.1 : Value).ownBlock ∧ some k_ ≠ (.slice Ao9 t289.length co9 : Value).ownBlock ∧ some k_ ≠ (u5 : Value).ownBlock) (.slice Ao10 t292.length co10) t292) ∧ (Kd.N k52 52 w' w.heap.size (fun k_ => (w.heap.size ≤ k_) ∧ some k_ ≠ (s_.1 : Value).ownBlock ∧ some k_ ≠ (.slice Ao9 t289.length co9 : Value).ownBlock ∧ some k_ ≠ (.slice Ao10 t292.length co10 : Value).ownBlock ∧ some k_ ≠ (u5 : Value).ownBlock ∧ k_ ≠ g ∧ k_ ≠ gb287 ∧ k_ ≠ gb299) (.slice Ao11 t295.length co11) t295) ∧ (Kd.R (Kd.int .i64) 2 w' w.heap.size (fun k_ => (w.heap.size ≤ k_) ∧ some k_ ≠ (s_.1 : Value).ownBlock ∧ some k_ ≠ (.slice Ao9 t289.length co9 : Value).ownBlock ∧ some k_ ≠ (.slice Ao10 t292.length co10 : Value).ownBlock) u5 x5_1) ∧ (∃ c_, (s_.1 : Value) = .slice (some s_.2) y323.length c_) ∧ (w'.heap[gb287]? = some (.cells #[.int .i64 0, .slice none 0 0, .slice none 0 0, .slice none 0 0] 30 (0, 0))) ∧ (w'.heap[gb299]? = some (.cells #[.int .i64 t288, .slice Ao9 t289.length co9, .slice Ao10 t292.length co10, .slice Ao11 t295.length co11] 30 (0, 0))) ∧ (IsS77 w0 w' g s0_0 t327) ∧ (KeepBut w w' g none) ∧ (Below w0.heap.size w0 w')) ?_ ?_
       rotate_left
       ·intro hCont
        refine two_ (i := 2) (j := 4) (Ni := some 50) (Nj := some 52) #[true, true, true, true, false, false, false, false, false] #[true, true, false, true, true, false, false, false, false] rfl rfl rfl rfl (two_of HT_.out (by kernel_rfl)) (by decide) (by decide) (fun K hK => ?_) (fun K hK => ?_)
        ·skip
         refine Kd.R_lit_step (Kd.int .i64) _ 2 ?hg (N := 50) ?hd (xs := ([500, 501, (-501)] : List Int)) (inner := [.int .i64 500, .int .i64 501, .int .i64 (-501)]) (ok := fun _ => True) (okp := fun _ => True) ?hr ?hp (fun _ hk => hk) trivial (Below.refl _ _) (Nat.le_refl _) (by simp) ?_; (case hd => rfl); (case hg => rfl); (case hr => first | (go_simp; done) | (go_simp; rfl)); (case hp => exact (Reps.one (show Kd.M (Kd.int .i64) _ _ _ 500 [.int .i64 500] from rfl) (Reps.one (show Kd.M (Kd.int .i64) _ _ _ 501 [.int .i64 501] from rfl) (Reps.one (show Kd.M (Kd.int .i64) _ _ _ (-501) [.int .i64 (-501)] from rfl) (Reps.none _ _)))))
         intro v324 w75 ho76 hb hg_ hnew_
         clear hg_ hnew_
         (first | rw [← Ny323.out] at ho76 | (simp only [Int.reduceToNat] at ho76; rw [← Ny323.out] at ho76))
         replace HO_300003 := Aside0.mk (Kd.N_elder' (by (with_reducible repeat (first | apply Kd.N_alloc | apply Kd.N_drewN | apply Kd.N_drew)); exact HO_300003.out) (Kd.R_base ho76) hb)
         have HO325 := Aside0.mk (Kd.R_lower (Kd.R_new' (Kd.R_new' (Kd.R_new' (Kd.R_newM (M := fun k_ => (w.heap.size ≤ k_)) ho76 (keep_size (w := w) (g := g) (row := none) sAKeep_12) (fun k_ h_ => h_)) (rLt_ HO_5)) (rLt_ HO_300001)) (rLt_ HO_300002)) (keep_size (w := w) (g := g) (row := none) sAKeep_12))
         replace HO_5 := rE_ HO_5 ho76 hb; replace HO_300001 := rE_ HO_300001 ho76 hb; replace HO_300002 := rE_ HO_300002 ho76 hb; replace BK287 := bB_ BK287 hb; replace BK299 := bB_ BK299 hb
         replace HK := Aside0.mk (KeepBut.trans (w := w) (row := none) sAKeep_12 (KeepBut.of_below hb g none) (.inl rfl))
         replace HB := Aside0.mk (below_step sABelo_12 hb)
         replace HI0 := Aside0.mk (IsS77.below sAIsS77_12 hb)
         clear hb ho76
         obtain ⟨Ao77, co77, eo77⟩ := Kd.R_slice HO325.out
         subst eo77
         obtain ⟨ado77, fo77, _⟩ := Kd.at_int (Kd.R_reads' HO325.out).2.2 0 (by decide) (by rw [Ny323.out]; simp)
         cases fo77
         refine hK.out _ _ ⟨(blk_cell BK299.out 0).trans rfl, (blk_cell BK299.out 1).trans rfl, (blk_cell BK299.out 2).trans rfl, (blk_cell BK299.out 3).trans rfl⟩ (fun hHeld => ?_)
         clear hK K
         refine nS_ (some 50) ?_
         refine one_ (i := 4) (N := some 52) #[true, true, true, true, true, false, false, false, false] rfl rfl (one_of HT_.out (by kernel_rfl)) (by decide) (fun K hK => ?_)
         refine goes_ Try.func45 (by kernel_rfl) rfl #[.pointer (some ⟨g, 0, none⟩), .int .i64 3] (by rfl) rfl rfl (by (try simp only [List.map_toArray, List.map_cons, List.map_nil]); first | done | rfl | (simp only [List.length_drop, List.length_take]; rfl)) ?_
         with_reducible refine (spec_l1Rd_below.calls g s0_0 t309 3 t326 t327 w0 _ ?side1 ?side2 A65.out).mono ?_
         (case side1 => repeat (first | (with_reducible first | exact HI0.out | apply IsS77.alloc | apply IsS77.drewN | apply IsS77.drew | apply IsS77.set_1 | refine IsS77.far ?_ NB0_287.out _ | refine IsS77.far ?_ NB0_299.out _) | exact HI0.out))
         (case side2 => repeat (first | (with_reducible first | exact HB.out | apply below_alloc | apply pw_below_drewN | apply below_drew1 | refine below_set ?_ (IsS77.ge HI0.out) | refine below_set ?_ GE287.out | refine below_set ?_ GE299.out) | exact HB.out))
         rintro e w78 ⟨rfl, hi, hb, hk⟩
         refine ⟨_, rfl, ?_⟩
         replace HO_5 := Aside0.mk (Kd.R_mono (Kd.R_keep (IsS77.apart (show IsS77 w0 _ g s0_0 t309 from sAIsS77_12) (rT_ HO_5) (by decide)) hk (fun _ h => h.2)) (fun _ h => h.1))
         replace HO_300001 := Aside0.mk (Kd.R_mono (Kd.R_keep (IsS77.apart (show IsS77 w0 _ g s0_0 t309 from sAIsS77_12) (rT_ HO_300001) (by decide)) hk (fun _ h => h.2)) (fun _ h => h.1))
         replace HO_300002 := Aside0.mk (Kd.R_mono (Kd.R_keep (IsS77.apart (show IsS77 w0 _ g s0_0 t309 from sAIsS77_12) (rT_ HO_300002) (by decide)) hk (fun _ h => h.2)) (fun _ h => h.1))
         replace HO_300003 := Aside0.mk (Kd.N_mono (Kd.N_keep (Kd.N_mono (ok := fun k_ => ((((w.heap.size ≤ k_)) ∧ (some k_ ≠ (u5 : Value).ownBlock ∧ (some k_ ≠ (.slice Ao9 t289.length co9 : Value).ownBlock ∧ (some k_ ≠ (.slice Ao10 t292.length co10 : Value).ownBlock ∧ (k_ ≠ gb287 ∧ (k_ ≠ gb299 ∧ k_ ≠ g)))))) ∧ some k_ ≠ (.slice (some ado77) y323.length co77 : Value).ownBlock)) (by (with_reducible repeat (first | apply Kd.N_alloc | apply Kd.N_drewN | apply Kd.N_drew)); exact HO_300003.out) (fun k_ hk_ => (⟨hk_, hk_.1.2.2.2.2.2.2⟩ : _ ∧ k_ ≠ g))) hk (fun _ h => h.2)) (fun _ h => h.1))
         replace BK287 := Aside0.mk (KeepBut.blk hk (g' := gb287) (o := .cells #[.int .i64 0, .slice none 0 0, .slice none 0 0, .slice none 0 0] 30 (0, 0)) (bT_ BK287) NB287_0.out (by simp))
         replace BK299 := Aside0.mk (KeepBut.blk hk (g' := gb299) (o := .cells #[.int .i64 t288, .slice Ao9 t289.length co9, .slice Ao10 t292.length co10, .slice Ao11 t295.length co11] 30 (0, 0)) (bT_ BK299) NB299_0.out (by simp))
         replace HO325 := Aside0.mk (Kd.R_mono (Kd.R_keep (IsS77.apart (show IsS77 w0 _ g s0_0 t309 from sAIsS77_12) (rT_ HO325) (by decide)) hk (fun _ h => h.2)) (fun _ h => h.1))
         replace HK := Aside0.mk (KeepBut.trans (w := w) (row := none) sAKeep_12 hk (.inl rfl))
         replace HB := Aside0.mk (hb)
         replace HI0 := Aside0.mk (hi)
         (try clear hb); (try clear hk); (try clear hi)
         refine hK.out _ _ ⟨(blk_cell BK299.out 0).trans rfl, (blk_cell BK299.out 1).trans rfl, (blk_cell BK299.out 2).trans rfl, (blk_cell BK299.out 3).trans rfl⟩ (fun hHeld => ?_)
         clear hK K
         refine nS_ (some 52) ?_
         exact norm_ (by simp only [putAll, Act.put, List.setIfInBounds_toArray, List.set_cons_zero, List.set_cons_succ]) (hCont (.slice (some ado77) y323.length co77, ado77) _ ⟨hHeld, (rM_ HO325), (rM_ HO_300001), (rM_ HO_300002), (by (with_reducible repeat (first | apply Kd.N_alloc | apply Kd.N_drewN | apply Kd.N_drew)); exact Kd.N_mono HO_300003.out (fun _ hk => ⟨hk.1.1, ⟨hk.2, ⟨hk.1.2.2.1, ⟨hk.1.2.2.2.1, ⟨hk.1.2.1, ⟨hk.1.2.2.2.2.2.2, ⟨hk.1.2.2.2.2.1, hk.1.2.2.2.2.2.1⟩⟩⟩⟩⟩⟩⟩)), (rM_ HO_5), ⟨_, rfl⟩, (bT_ BK287), (bT_ BK299), sAIsS77_12, sAKeep_12, sABelo_12⟩)
        ·skip
         refine goes_ Try.func45 (by kernel_rfl) rfl #[.pointer (some ⟨g, 0, none⟩), .int .i64 3] (by rfl) rfl rfl (by (try simp only [List.map_toArray, List.map_cons, List.map_nil]); first | done | rfl | (simp only [List.length_drop, List.length_take]; rfl)) ?_
         with_reducible refine (spec_l1Rd_below.calls g s0_0 t309 3 t326 t327 w0 _ ?side1 ?side2 A65.out).mono ?_
         (case side1 => repeat (first | (with_reducible first | exact HI0.out | apply IsS77.alloc | apply IsS77.drewN | apply IsS77.drew | apply IsS77.set_1 | refine IsS77.far ?_ NB0_287.out _ | refine IsS77.far ?_ NB0_299.out _) | exact HI0.out))
         (case side2 => repeat (first | (with_reducible first | exact HB.out | apply below_alloc | apply pw_below_drewN | apply below_drew1 | refine below_set ?_ (IsS77.ge HI0.out) | refine below_set ?_ GE287.out | refine below_set ?_ GE299.out) | exact HB.out))
         rintro e w75 ⟨rfl, hi, hb, hk⟩
         refine ⟨_, rfl, ?_⟩
         replace HO_5 := Aside0.mk (Kd.R_mono (Kd.R_keep (IsS77.apart (show IsS77 w0 _ g s0_0 t309 from sAIsS77_12) (rT_ HO_5) (by decide)) hk (fun _ h => h.2)) (fun _ h => h.1))
         replace HO_300001 := Aside0.mk (Kd.R_mono (Kd.R_keep (IsS77.apart (show IsS77 w0 _ g s0_0 t309 from sAIsS77_12) (rT_ HO_300001) (by decide)) hk (fun _ h => h.2)) (fun _ h => h.1))
         replace HO_300002 := Aside0.mk (Kd.R_mono (Kd.R_keep (IsS77.apart (show IsS77 w0 _ g s0_0 t309 from sAIsS77_12) (rT_ HO_300002) (by decide)) hk (fun _ h => h.2)) (fun _ h => h.1))
         replace HO_300003 := Aside0.mk (Kd.N_mono (Kd.N_keep (Kd.N_mono (ok := fun k_ => (((w.heap.size ≤ k_)) ∧ (some k_ ≠ (u5 : Value).ownBlock ∧ (some k_ ≠ (.slice Ao9 t289.length co9 : Value).ownBlock ∧ (some k_ ≠ (.slice Ao10 t292.length co10 : Value).ownBlock ∧ (k_ ≠ gb287 ∧ (k_ ≠ gb299 ∧ k_ ≠ g))))))) (by (with_reducible repeat (first | apply Kd.N_alloc | apply Kd.N_drewN | apply Kd.N_drew)); exact HO_300003.out) (fun k_ hk_ => (⟨hk_, hk_.2.2.2.2.2.2⟩ : _ ∧ k_ ≠ g))) hk (fun _ h => h.2)) (fun _ h => h.1))
         replace BK287 := Aside0.mk (KeepBut.blk hk (g' := gb287) (o := .cells #[.int .i64 0, .slice none 0 0, .slice none 0 0, .slice none 0 0] 30 (0, 0)) (bT_ BK287) NB287_0.out (by simp))
         replace BK299 := Aside0.mk (KeepBut.blk hk (g' := gb299) (o := .cells #[.int .i64 t288, .slice Ao9 t289.length co9, .slice Ao10 t292.length co10, .slice Ao11 t295.length co11] 30 (0, 0)) (bT_ BK299) NB299_0.out (by simp))
         replace HK := Aside0.mk (KeepBut.trans (w := w) (row := none) sAKeep_12 hk (.inl rfl))
         replace HB := Aside0.mk (hb)
         replace HI0 := Aside0.mk (hi)
         (try clear hb); (try clear hk); (try clear hi)
         refine hK.out _ _ ⟨(blk_cell BK299.out 0).trans rfl, (blk_cell BK299.out 1).trans rfl, (blk_cell BK299.out 2).trans rfl, (blk_cell BK299.out 3).trans rfl⟩ (fun hHeld => ?_)
         clear hK K
         refine nS_ (some 52) ?_
         refine one_ (i := 2) (N := some 50) #[true, true, true, true, true, false, false, false, false] rfl rfl (one_of HT_.out (by kernel_rfl)) (by decide) (fun K hK => ?_)
         refine Kd.R_lit_step (Kd.int .i64) _ 2 ?hg (N := 50) ?hd (xs := ([500, 501, (-501)] : List Int)) (inner := [.int .i64 500, .int .i64 501, .int .i64 (-501)]) (ok := fun _ => True) (okp := fun _ => True) ?hr ?hp (fun _ hk => hk) trivial (Below.refl _ _) (Nat.le_refl _) (by simp) ?_; (case hd => rfl); (case hg => rfl); (case hr => first | (go_simp; done) | (go_simp; rfl)); (case hp => exact (Reps.one (show Kd.M (Kd.int .i64) _ _ _ 500 [.int .i64 500] from rfl) (Reps.one (show Kd.M (Kd.int .i64) _ _ _ 501 [.int .i64 501] from rfl) (Reps.one (show Kd.M (Kd.int .i64) _ _ _ (-501) [.int .i64 (-501)] from rfl) (Reps.none _ _)))))
         intro v324 w76 ho77 hb hg_ hnew_
         clear hg_ hnew_
         (first | rw [← Ny323.out] at ho77 | (simp only [Int.reduceToNat] at ho77; rw [← Ny323.out] at ho77))
         replace HO_300003 := Aside0.mk (Kd.N_elder' (by (with_reducible repeat (first | apply Kd.N_alloc | apply Kd.N_drewN | apply Kd.N_drew)); exact HO_300003.out) (Kd.R_base ho77) hb)
         have HO325 := Aside0.mk (Kd.R_lower (Kd.R_new' (Kd.R_new' (Kd.R_new' (Kd.R_newM (M := fun k_ => (w.heap.size ≤ k_)) ho77 (keep_size (w := w) (g := g) (row := none) sAKeep_12) (fun k_ h_ => h_)) (rLt_ HO_5)) (rLt_ HO_300001)) (rLt_ HO_300002)) (keep_size (w := w) (g := g) (row := none) sAKeep_12))
         replace HO_5 := rE_ HO_5 ho77 hb; replace HO_300001 := rE_ HO_300001 ho77 hb; replace HO_300002 := rE_ HO_300002 ho77 hb; replace BK287 := bB_ BK287 hb; replace BK299 := bB_ BK299 hb
         replace HK := Aside0.mk (KeepBut.trans (w := w) (row := none) sAKeep_12 (KeepBut.of_below hb g none) (.inl rfl))
         replace HB := Aside0.mk (below_step sABelo_12 hb)
         replace HI0 := Aside0.mk (IsS77.below sAIsS77_12 hb)
         clear hb ho77
         obtain ⟨Ao78, co78, eo78⟩ := Kd.R_slice HO325.out
         subst eo78
         obtain ⟨ado78, fo78, _⟩ := Kd.at_int (Kd.R_reads' HO325.out).2.2 0 (by decide) (by rw [Ny323.out]; simp)
         cases fo78
         refine hK.out _ _ ⟨(blk_cell BK299.out 0).trans rfl, (blk_cell BK299.out 1).trans rfl, (blk_cell BK299.out 2).trans rfl, (blk_cell BK299.out 3).trans rfl⟩ (fun hHeld => ?_)
         clear hK K
         refine nS_ (some 50) ?_
         exact norm_ (by simp only [putAll, Act.put, List.setIfInBounds_toArray, List.set_cons_zero, List.set_cons_succ]) (hCont (.slice (some ado78) y323.length co78, ado78) _ ⟨hHeld, (rM_ HO325), (rM_ HO_300001), (rM_ HO_300002), (by (with_reducible repeat (first | apply Kd.N_alloc | apply Kd.N_drewN | apply Kd.N_drew)); exact Kd.N_mono HO_300003.out (fun _ hk => ⟨hk.1.1, ⟨hk.2, ⟨hk.1.2.2.1, ⟨hk.1.2.2.2.1, ⟨hk.1.2.1, ⟨hk.1.2.2.2.2.2.2, ⟨hk.1.2.2.2.2.1, hk.1.2.2.2.2.2.1⟩⟩⟩⟩⟩⟩⟩)), (rM_ HO_5), ⟨_, rfl⟩, (bT_ BK287), (bT_ BK299), sAIsS77_12, sAKeep_12, sABelo_12⟩)
       rintro ⟨v324, adz_v324⟩ w79 ⟨hS_, h0_, h1_, h2_, h3_, h4_, h5_, h6_, h7_, h8_, h9_, h10_⟩
       try dsimp only at h0_ h1_ h2_ h3_ h4_ h5_ h6_ h7_ h8_ h9_ h10_
       have HO325 := Aside0.mk h0_; replace HO_300001 := Aside0.mk h1_; replace HO_300002 := Aside0.mk h2_; replace HO_300003 := Aside0.mk h3_; replace HO_5 := Aside0.mk h4_; have HA_HO325 := Aside0.mk h5_; replace BK287 := Aside0.mk h6_; replace BK299 := Aside0.mk h7_; replace HI0 := Aside0.mk h8_; replace HK := Aside0.mk h9_; replace HB := Aside0.mk h10_; clear h0_ h1_ h2_ h3_ h4_ h5_ h6_ h7_ h8_ h9_ h10_
       have hHeld : w79.cell? ⟨gb299, 0, none⟩ = some (.int .i64 t288) ∧ w79.cell? ⟨gb299, 1, none⟩ = some (.slice Ao9 t289.length co9) ∧ w79.cell? ⟨gb299, 2, none⟩ = some (.slice Ao10 t292.length co10) ∧ w79.cell? ⟨gb299, 3, none⟩ = some (.slice Ao11 t295.length co11) := hS_
       obtain ⟨co80, eo80⟩ := HA_HO325.out
       clear HA_HO325
       subst eo80
       have p69 : 0 ≤ (0 : Int) := (by omega)
       have q69 : (0 : Int) < ((t289.length : Int) : Int) := dA_
       have qi69 : (0 < t289.length) = True := eq_true (by omega)
       obtain ⟨go69, co69, eo69, gb69, gl69, cl69, HG69⟩ := Kd.R_form HO_300001.out (by omega)
       (first | cases eo69 | (injection eo69 with ea_ en_ ec_; (first | subst ea_ | (injection ea_ with ea_; subst ea_)); subst ec_; clear en_))
       have GB69 := Aside0.mk gb69; have GL69 := Aside0.mk (Nat.le_trans HL.out GB69.out); have GG69 := Aside0.mk HG69; clear gb69 gl69 HG69
       obtain ⟨hx69_0, hf69_0⟩ := Kd.R_celln 0 HO_300001.out (0 : Int) p69 q69
       (try rw [show ((0 : Int)).toNat = 0 from rfl] at hx69_0)
       (try simp only [Nat.reduceMul, Nat.zero_mul, Nat.zero_add, Nat.reduceAdd] at hx69_0)
       (try rw [show ((0 : Int)).toNat = 0 from rfl] at hf69_0)
       (try simp only [Nat.reduceMul, Nat.zero_mul, Nat.zero_add, Nat.reduceAdd] at hf69_0)
       replace p69 := eq_true p69; replace q69 := eq_true q69
       have HN0_go69 := Aside0.mk (show g ≠ go69 from by have h_ := IsS77.own_ne HI0.out HO_300001.out (by decide); intro e_; exact h_ (by rw [e_]; rfl))
       have HP81 := Kd.R_putn HO_300001.out (0 : Int) (rd y323 t326)
       rw [← Ny329.out] at HP81
       have HQ81 := Aside0.mk HP81; clear HP81
       refine norm_ (a' := ?_) ?_ ?_
       rotate_left
       ·simp only [putAll, Act.put, List.setIfInBounds_toArray, List.set_cons_zero, List.set_cons_succ]
        rfl
       refine pT_ 5 (some 53) #[true, true, true, true, true, true, false, false, false] HT_ ?_
       refine one_ (i := 6) (N := some 54) #[true, true, true, true, true, true, true, false, false] rfl rfl (one_of HT_.out (by kernel_rfl)) (by decide) (fun K hK => ?_)
       (have p328 : 0 ≤ (t326 : Int) := dA_; have q328 : t326 < (y323.length : Int) := dA_; obtain ⟨ad328, e328, hx328_0⟩ := Kd.at_int (Kd.R_reads' HO325.out).2.2 t326 p328 q328; obtain rfl : adz_v324 = ad328 := (by injection e328))
       refine value_ (w1 := ?_) (v := ?_) (by rfl) rfl ?_ ?_
       rotate_left 2
       ·go_simp
        constructor
        ·rfl
        ·rfl
       clear hx328_0
       refine hK.out _ _ ⟨(blk_cell BK299.out 0).trans rfl, (blk_cell BK299.out 1).trans rfl, (blk_cell BK299.out 2).trans rfl, (blk_cell BK299.out 3).trans rfl⟩ (fun hHeld => ?_)
       clear hK K
       refine nS_ (some 54) ?_
       refine pT_ 7 (some 55) #[true, true, true, true, true, true, true, true, false] HT_ ?_
       refine last_ (i := 8) (N := none) #[true, true, true, true, true, true, true, true, true] rfl rfl (one_of HT_.out (by kernel_rfl)) (by decide) (fun K hK => ?_)
       refine skip_ (w1 := ?_) (by rfl) rfl ?_ ?_
       rotate_left
       ·go_simp
        rfl
       refine hK.out _ _ ?_
       clear hK K
       refine done_ (done_of HT_.out (by kernel_rfl)) ?_
       have n0_ : Aside0 (Kd.R (Kd.int .i64) 2 (w79.setCell ⟨go69, 0, none⟩ (.int .i64 (rd y323 t326))) w.heap.size (fun k_ => (w.heap.size ≤ k_) ∧ some k_ ≠ (.slice (some ⟨go69, 0, none⟩) t289.length co9 : Value).ownBlock ∧ some k_ ≠ (.slice Ao10 t292.length co10 : Value).ownBlock ∧ some k_ ≠ (.slice (some adz_v324) y323.length co80 : Value).ownBlock) u5 x5_1) := ⟨by (with_reducible repeat (first | apply Kd.R_alloc | apply Kd.R_drewN | apply Kd.R_drew)); exact Kd.R_mono (Kd.R_far (p := ⟨go69, 0, none⟩) (Kd.R_mono HO_5.out (fun k_ hk => (⟨hk, fun e_ => hk.2.2.1 (by rw [e_]; rfl)⟩ : _ ∧ k_ ≠ go69))) (fun _ hk => hk.2) (.int .i64 (rd y323 t326))) (fun _ hk => ⟨hk.1.1, ⟨hk.1.2.2.1, ⟨hk.1.2.2.2, hk.1.2.1⟩⟩⟩)⟩
       have n1_ : Aside0 (Kd.R (Kd.int .i64) 2 (w79.setCell ⟨go69, 0, none⟩ (.int .i64 (rd y323 t326))) w.heap.size (fun k_ => (w.heap.size ≤ k_) ∧ some k_ ≠ (u5 : Value).ownBlock ∧ some k_ ≠ (.slice Ao10 t292.length co10 : Value).ownBlock ∧ some k_ ≠ (.slice (some adz_v324) y323.length co80 : Value).ownBlock) (.slice (some ⟨go69, 0, none⟩) t289.length co9) y329) := ⟨Kd.R_mono HQ81.out (by intro k hk; revert hk; simp only [and_imp]; intros; and_intros <;> assumption)⟩
       have n2_ : Aside0 (Kd.R (Kd.int .i64) 2 (w79.setCell ⟨go69, 0, none⟩ (.int .i64 (rd y323 t326))) w.heap.size (fun k_ => (w.heap.size ≤ k_) ∧ some k_ ≠ (u5 : Value).ownBlock ∧ some k_ ≠ (.slice (some ⟨go69, 0, none⟩) t289.length co9 : Value).ownBlock ∧ some k_ ≠ (.slice (some adz_v324) y323.length co80 : Value).ownBlock) (.slice Ao10 t292.length co10) t292) := ⟨by (with_reducible repeat (first | apply Kd.R_alloc | apply Kd.R_drewN | apply Kd.R_drew)); exact Kd.R_mono (Kd.R_far (p := ⟨go69, 0, none⟩) (Kd.R_mono HO_300002.out (fun k_ hk => (⟨hk, fun e_ => hk.2.2.1 (by rw [e_]; rfl)⟩ : _ ∧ k_ ≠ go69))) (fun _ hk => hk.2) (.int .i64 (rd y323 t326))) (fun _ hk => ⟨hk.1.1, ⟨hk.1.2.2.2, ⟨hk.1.2.2.1, hk.1.2.1⟩⟩⟩)⟩
       have n3_ : Aside0 (Kd.N k52 52 (w79.setCell ⟨go69, 0, none⟩ (.int .i64 (rd y323 t326))) w.heap.size (fun k_ => (w.heap.size ≤ k_) ∧ some k_ ≠ (u5 : Value).ownBlock ∧ some k_ ≠ (.slice (some ⟨go69, 0, none⟩) t289.length co9 : Value).ownBlock ∧ some k_ ≠ (.slice Ao10 t292.length co10 : Value).ownBlock ∧ some k_ ≠ (.slice (some adz_v324) y323.length co80 : Value).ownBlock ∧ k_ ≠ g ∧ k_ ≠ gb287 ∧ k_ ≠ gb299) (.slice Ao11 t295.length co11) t295) := ⟨by (with_reducible repeat (first | apply Kd.N_alloc | apply Kd.N_drewN | apply Kd.N_drew)); exact Kd.N_mono (Kd.N_far (p := ⟨go69, 0, none⟩) (Kd.N_mono HO_300003.out (fun k_ hk => (⟨hk, fun e_ => hk.2.2.1 (by rw [e_]; rfl)⟩ : _ ∧ k_ ≠ go69))) (fun _ hk => hk.2) (.int .i64 (rd y323 t326))) (fun _ hk => ⟨hk.1.1, ⟨hk.1.2.2.2.2.1, ⟨hk.1.2.2.1, ⟨hk.1.2.2.2.1, ⟨hk.1.2.1, ⟨hk.1.2.2.2.2.2.1, ⟨hk.1.2.2.2.2.2.2.1, hk.1.2.2.2.2.2.2.2⟩⟩⟩⟩⟩⟩⟩)⟩
       have n4_ : Aside0 (Kd.R (Kd.int .i64) 2 (w79.setCell ⟨go69, 0, none⟩ (.int .i64 (rd y323 t326))) w.heap.size (fun k_ => (w.heap.size ≤ k_) ∧ some k_ ≠ (u5 : Value).ownBlock ∧ some k_ ≠ (.slice (some ⟨go69, 0, none⟩) t289.length co9 : Value).ownBlock ∧ some k_ ≠ (.slice Ao10 t292.length co10 : Value).ownBlock) (.slice (some adz_v324) y323.length co80) y323) := ⟨by (with_reducible repeat (first | apply Kd.R_alloc | apply Kd.R_drewN | apply Kd.R_drew)); exact Kd.R_mono (Kd.R_far (p := ⟨go69, 0, none⟩) (Kd.R_mono HO325.out (fun k_ hk => (⟨hk, fun e_ => hk.2.1 (by rw [e_]; rfl)⟩ : _ ∧ k_ ≠ go69))) (fun _ hk => hk.2) (.int .i64 (rd y323 t326))) (fun _ hk => ⟨hk.1.1, ⟨hk.1.2.2.2, ⟨hk.1.2.1, hk.1.2.2.1⟩⟩⟩)⟩
       have n5_ : Aside0 ((w79.setCell ⟨go69, 0, none⟩ (.int .i64 (rd y323 t326))).heap[gb287]? = some (.cells #[.int .i64 0, .slice none 0 0, .slice none 0 0, .slice none 0 0] 30 (0, 0))) := ⟨by (with_reducible repeat (first | refine blk_drewN ?_ _ | refine blk_drew ?_ | refine blk_alloc ?_ _)); refine blk_far ?_ (by have h_ := Kd.R_ne HO_300001.out BK287.out (by decide); intro e_; exact h_ (by rw [e_]; rfl)) _; exact bT_ BK287⟩
       have n6_ : Aside0 ((w79.setCell ⟨go69, 0, none⟩ (.int .i64 (rd y323 t326))).heap[gb299]? = some (.cells #[.int .i64 t288, .slice (some ⟨go69, 0, none⟩) t289.length co9, .slice Ao10 t292.length co10, .slice Ao11 t295.length co11] 30 (0, 0))) := ⟨by (with_reducible repeat (first | refine blk_drewN ?_ _ | refine blk_drew ?_ | refine blk_alloc ?_ _)); refine blk_far ?_ (by have h_ := Kd.R_ne HO_300001.out BK299.out (by decide); intro e_; exact h_ (by rw [e_]; rfl)) _; exact bT_ BK299⟩
       have n7_ : Aside0 (IsS77 w0 (w79.setCell ⟨go69, 0, none⟩ (.int .i64 (rd y323 t326))) g s0_0 t327) := ⟨sAIsS77_12⟩
       have n8_ : Aside0 (KeepBut w (w79.setCell ⟨go69, 0, none⟩ (.int .i64 (rd y323 t326))) g none) := ⟨sAKeep_12⟩
       have n9_ : Aside0 (Below w0.heap.size w0 (w79.setCell ⟨go69, 0, none⟩ (.int .i64 (rd y323 t326)))) := ⟨sABelo_12⟩
       (try clear HO_5); (try clear HO_300001); (try clear HO_300002); (try clear HO_300003); (try clear HO325); (try clear BK287); (try clear BK299); (try clear HI0); (try clear HK); (try clear HB)
       generalize (w79.setCell ⟨go69, 0, none⟩ (.int .i64 (rd y323 t326))) = w82 at n0_ n1_ n2_ n3_ n4_ n5_ n6_ n7_ n8_ n9_ ⊢
       have HO_5 := n0_; have HO_300001 := n1_; have HO_300002 := n2_; have HO_300003 := n3_; have HO325 := n4_; have BK287 := n5_; have BK299 := n6_; have HI0 := n7_; have HK := n8_; have HB := n9_; clear n0_ n1_ n2_ n3_ n4_ n5_ n6_ n7_ n8_ n9_
       obtain ⟨hcz83_0, hcz83_1, hcz83_2, hcz83_3, hfz83_0, hfz83_1, hfz83_2, hfz83_3⟩ := cf4_ BK299; have hnb84 := NB287_0.out; have hnc84 := NB0_287.out
       obtain ⟨hcz85_0, hcz85_1, hcz85_2, hcz85_3, hfz85_0, hfz85_1, hfz85_2, hfz85_3⟩ := cf4_ BK287
       try go_wp2
       refine bodyPost_ret (results_ct rfl _ _ gb287 30 #[.int .i64 t288, .slice (some ⟨go69, 0, none⟩) t289.length co9, .slice Ao10 t292.length co10, .slice Ao11 t295.length co11] (0, 0) _ rfl (bP_ BK287) Try.underlying30 rfl (by kernel_rfl)) rfl ?_
       exact ⟨_, _, _, _, by first | rfl | (simp [errW_none, errW_some] <;> rfl) | (simp [*, errW_none, errW_some] <;> rfl), by (with_reducible repeat (first | apply Kd.R_alloc | apply Kd.R_drewN | apply Kd.R_drew)); exact Kd.R_mono (Kd.R_far (p := ⟨gb287, 3, none⟩) (Kd.R_far (p := ⟨gb287, 2, none⟩) (Kd.R_far (p := ⟨gb287, 1, none⟩) (Kd.R_far (p := ⟨gb287, 0, none⟩) (Kd.R_types HO_300001.out BK287.out (by decide)) (fun _ hk => hk.2) (.int .i64 t288)) (fun _ hk => hk.2) (.slice (some ⟨go69, 0, none⟩) t289.length co9)) (fun _ hk => hk.2) (.slice Ao10 t292.length co10)) (fun _ hk => hk.2) (.slice Ao11 t295.length co11)) (fun _ hk => ⟨hk.1.1, ⟨hk.1.2.2.1, hk.1.2.1⟩⟩), by (with_reducible repeat (first | apply Kd.R_alloc | apply Kd.R_drewN | apply Kd.R_drew)); exact Kd.R_mono (Kd.R_far (p := ⟨gb287, 3, none⟩) (Kd.R_far (p := ⟨gb287, 2, none⟩) (Kd.R_far (p := ⟨gb287, 1, none⟩) (Kd.R_far (p := ⟨gb287, 0, none⟩) (Kd.R_types HO_300002.out BK287.out (by decide)) (fun _ hk => hk.2) (.int .i64 t288)) (fun _ hk => hk.2) (.slice (some ⟨go69, 0, none⟩) t289.length co9)) (fun _ hk => hk.2) (.slice Ao10 t292.length co10)) (fun _ hk => hk.2) (.slice Ao11 t295.length co11)) (fun _ hk => ⟨hk.1.1, ⟨hk.1.2.2.1, hk.1.2.1⟩⟩), by (with_reducible repeat (first | apply Kd.N_alloc | apply Kd.N_drewN | apply Kd.N_drew)); exact Kd.N_mono (Kd.N_far (p := ⟨gb287, 3, none⟩) (Kd.N_far (p := ⟨gb287, 2, none⟩) (Kd.N_far (p := ⟨gb287, 1, none⟩) (Kd.N_far (p := ⟨gb287, 0, none⟩) (Kd.N_mono HO_300003.out (fun k_ hk => (⟨hk, hk.2.2.2.2.2.2.1⟩ : _ ∧ k_ ≠ gb287))) (fun _ hk => hk.2) (.int .i64 t288)) (fun _ hk => hk.2) (.slice (some ⟨go69, 0, none⟩) t289.length co9)) (fun _ hk => hk.2) (.slice Ao10 t292.length co10)) (fun _ hk => hk.2) (.slice Ao11 t295.length co11)) (fun _ hk => ⟨hk.1.1, ⟨hk.1.2.2.1, ⟨hk.1.2.2.2.1, hk.1.2.1⟩⟩⟩), by (with_reducible repeat (first | apply Kd.R_alloc | apply Kd.R_drewN | apply Kd.R_drew)); exact Kd.R_mono (Kd.R_far (p := ⟨gb287, 3, none⟩) (Kd.R_far (p := ⟨gb287, 2, none⟩) (Kd.R_far (p := ⟨gb287, 1, none⟩) (Kd.R_far (p := ⟨gb287, 0, none⟩) (Kd.R_types HO_5.out BK287.out (by decide)) (fun _ hk => hk.2) (.int .i64 t288)) (fun _ hk => hk.2) (.slice (some ⟨go69, 0, none⟩) t289.length co9)) (fun _ hk => hk.2) (.slice Ao10 t292.length co10)) (fun _ hk => hk.2) (.slice Ao11 t295.length co11)) (fun _ hk => ⟨hk.1.1, ⟨hk.1.2.1, hk.1.2.2.1⟩⟩), sAIsS77_12, sABelo_12, sAKeep_12⟩
      ·rw [if_neg c64] at H
       have c64b0 := beq_eq_false_iff_ne.mpr c64
       have c64b1 := bne_iff_ne.mpr c64
       by_cases c86 : t308 = 3
       ·rw [if_pos c86] at H
        have c86b0 := beq_iff_eq.mpr c86
        have c86b1 := bne_eq_false_iff_eq.mpr c86
        clear c86
        obtain ⟨y330, hy330⟩ : ∃ y_ : List Int, y_ = (([0, 5, 6] : List Int)) := ⟨_, rfl⟩
        replace H : ((spec_l1Rd_below.f s0_0 t309 3).bind fun bt333 => (if 0 ≤ bt333.1 then (if bt333.1 < (y330.length : Int) then (if 0 < (t295.length : Int) then (some (t288, t289, t292, (t295.set (0 : Int).toNat (⟨(rd_T52 t295 0).f0, (rd_T52 t295 0).f1, rd y330 bt333.1⟩ : S52)), x5_1, bt333.2)) else (none)) else (none)) else (none))) = some (r1, r2, r3, r4, r5, r6) := by first | (rw [hy330]; with_reducible exact H) | (have H2_ := (Option.bind_some _ _).symm.trans H; rw [hy330]; with_reducible exact H2_) | (have H2_ := (Option.bind_some _ _).symm.trans H; with_reducible exact H2_) | with_reducible exact H | (rw [hy330]; exact H) | exact H
        have Ny330 := Aside0.mk hy330; clear hy330; replace H := Option.bind_eq_some_iff.mp H
        obtain ⟨⟨t333, t334⟩, A870, H⟩ := H
        replace H : (if 0 ≤ t333 then (if t333 < (y330.length : Int) then (if 0 < (t295.length : Int) then (some (t288, t289, t292, (t295.set (0 : Int).toNat (⟨(rd_T52 t295 0).f0, (rd_T52 t295 0).f1, rd y330 t333⟩ : S52)), x5_1, t334)) else (none)) else (none)) else (none)) = some (r1, r2, r3, r4, r5, r6) := H
        have A87 := Aside0.mk A870; clear A870
        obtain ⟨c88, H⟩ := ifS_ H
        have c88b0 : decide (0 ≤ t333) = true := decide_eq_true c88
        clear c88
        obtain ⟨c89, H⟩ := ifS_ H
        have c89b0 : decide (t333 < (y330.length : Int)) = true := decide_eq_true c89
        clear c89
        obtain ⟨c90, H⟩ := ifS_ H
        have c90b0 : decide (0 < (t295.length : Int)) = true := decide_eq_true c90
        have c90b1 : decide (0 < t295.length) = true := decide_eq_true (by omega)
        clear c90
        obtain ⟨y336, hy336⟩ : ∃ y_ : List (S52), y_ = (t295.set (0 : Int).toNat (⟨(rd_T52 t295 0).f0, (rd_T52 t295 0).f1, rd y330 t333⟩ : S52)) := ⟨_, rfl⟩
        replace H : (some (t288, t289, t292, y336, x5_1, t334)) = some (r1, r2, r3, r4, r5, r6) := by first | (rw [hy336]; with_reducible exact H) | (have H2_ := (Option.bind_some _ _).symm.trans H; rw [hy336]; with_reducible exact H2_) | (have H2_ := (Option.bind_some _ _).symm.trans H; with_reducible exact H2_) | with_reducible exact H | (rw [hy336]; exact H) | exact H
        have Ny336 := Aside0.mk hy336; clear hy336
        simp only [Option.some.injEq, Prod.mk.injEq] at H
        obtain ⟨rfl, rfl, rfl, rfl, rfl, rfl⟩ := H
        have hnb92 := NB299_287.out; have hnc92 := NB287_299.out; have hnb93 := NB299_0.out; have hnc93 := NB0_299.out
        obtain ⟨hcz94_0, hcz94_1, hcz94_2, hcz94_3, hfz94_0, hfz94_1, hfz94_2, hfz94_3⟩ := cf4_ BK299
        try go_wp2_with (first | ((with_reducible refine gate_callee (f := 45) rfl ?_); refine gL_ (some 24) Try.func45 #[.pointer (some ⟨g, 0, none⟩), .int .i64 30] ?_; (with_reducible refine (spec_l1Rd_below.calls g s0_0 x1001_1 30 t308 t309 w0 _ ?side1 ?side2 A22.out).mono ?_); (case side1 => repeat (first | (with_reducible first | exact HI0.out | apply IsS77.alloc | apply IsS77.drewN | apply IsS77.drew | apply IsS77.set_1 | refine IsS77.far ?_ NB0_287.out _ | refine IsS77.far ?_ NB0_299.out _) | exact HI0.out)); (case side2 => repeat (first | (with_reducible first | exact HB.out | apply below_alloc | apply pw_below_drewN | apply below_drew1 | refine below_set ?_ (IsS77.ge HI0.out) | refine below_set ?_ GE287.out | refine below_set ?_ GE299.out) | exact HB.out)); rintro e w95 ⟨rfl, hi, hb, hk⟩; refine ⟨_, rfl, ?_⟩; replace HO_5 := Aside0.mk (Kd.R_mono (Kd.R_keep (IsS77.apart (show IsS77 w0 _ g s0_0 x1001_1 from sAIsS77_12) (rT_ HO_5) (by decide)) hk (fun _ h => h.2)) (fun _ h => h.1)); replace HO_300001 := Aside0.mk (Kd.R_mono (Kd.R_keep (IsS77.apart (show IsS77 w0 _ g s0_0 x1001_1 from sAIsS77_12) (rT_ HO_300001) (by decide)) hk (fun _ h => h.2)) (fun _ h => h.1)); replace HO_300002 := Aside0.mk (Kd.R_mono (Kd.R_keep (IsS77.apart (show IsS77 w0 _ g s0_0 x1001_1 from sAIsS77_12) (rT_ HO_300002) (by decide)) hk (fun _ h => h.2)) (fun _ h => h.1)); replace HO_300003 := Aside0.mk (Kd.N_mono (Kd.N_keep (Kd.N_mono (ok := fun k_ => (((w.heap.size ≤ k_)) ∧ (some k_ ≠ (u5 : Value).ownBlock ∧ (some k_ ≠ (.slice Ao9 t289.length co9 : Value).ownBlock ∧ (some k_ ≠ (.slice Ao10 t292.length co10 : Value).ownBlock ∧ (k_ ≠ gb287 ∧ (k_ ≠ gb299 ∧ k_ ≠ g))))))) (by (with_reducible repeat (first | apply Kd.N_alloc | apply Kd.N_drewN | apply Kd.N_drew)); exact HO_300003.out) (fun k_ hk_ => (⟨hk_, hk_.2.2.2.2.2.2⟩ : _ ∧ k_ ≠ g))) hk (fun _ h => h.2)) (fun _ h => h.1)); replace BK287 := Aside0.mk (KeepBut.blk hk (g' := gb287) (o := .cells #[.int .i64 0, .slice none 0 0, .slice none 0 0, .slice none 0 0] 30 (0, 0)) (bT_ BK287) NB287_0.out (by simp)); replace BK299 := Aside0.mk (KeepBut.blk hk (g' := gb299) (o := .cells #[.int .i64 t288, .slice Ao9 t289.length co9, .slice Ao10 t292.length co10, .slice Ao11 t295.length co11] 30 (0, 0)) (bT_ BK299) NB299_0.out (by simp)); replace HK := Aside0.mk (KeepBut.trans (w := w) (row := none) sAKeep_12 hk (.inl rfl)); replace HB := Aside0.mk (hb); replace HI0 := Aside0.mk (hi); (try clear hb); (try clear hk); (try clear hi)))
        have pi335 : (0 ≤ (t333 : Int)) = True := eq_true dA_
        have qi335 : (t333 < (y330.length : Int)) = True := eq_true dA_
        replace HO_5 := Aside0.mk (Kd.R_drew HO_5.out)
        replace HO_300001 := Aside0.mk (Kd.R_drew HO_300001.out)
        replace HO_300002 := Aside0.mk (Kd.R_drew HO_300002.out)
        replace HO_300003 := Aside0.mk (Kd.N_drew HO_300003.out)
        replace BK287 := Aside0.mk (blk_drew BK287.out)
        replace BK299 := Aside0.mk (blk_drew BK299.out)
        replace HI0 := Aside0.mk (IsS77.drew HI0.out)
        replace HK := Aside0.mk (keep_drew HK.out)
        replace HB := Aside0.mk (below_drew1 HB.out)
        refine start_ (n := 10) (S := fun w' => w'.cell? ⟨gb299, 0, none⟩ = some (.int .i64 t288) ∧ w'.cell? ⟨gb299, 1, none⟩ = some (.slice Ao9 t289.length co9) ∧ w'.cell? ⟨gb299, 2, none⟩ = some (.slice Ao10 t292.length co10) ∧ w'.cell? ⟨gb299, 3, none⟩ = some (.slice Ao11 t295.length co11)) (ds := [9]) #[false, false, false, false, false, false, false, false, false, false] (by kernel_rfl) rfl rfl ⟨(blk_cell BK299.out 0).trans rfl, (blk_cell BK299.out 1).trans rfl, (blk_cell BK299.out 2).trans rfl, (blk_cell BK299.out 3).trans rfl⟩ (fun hHeld => ?_); refine with_tabW spec_l15Draw.tab15 spec_l15Draw.bits15 (fun HT_ HW_ => ?_)
        generalize w95.drew = w96 at HO_5 HO_300001 HO_300002 HO_300003 BK287 BK299 HI0 HK HB hHeld ⊢
        refine pT_ 0 (some 58) #[true, false, false, false, false, false, false, false, false, false] HT_ ?_
        refine pT_ 3 (some 61) #[true, false, false, true, false, false, false, false, false, false] HT_ ?_
        refine tT_ 1 (some 59) #[true, true, false, true, false, false, false, false, false, false] HT_ HW_ hHeld ?_ (hy := by rintro w' ⟨s0, s1, s2, s3⟩; go_simp; with_reducible rfl)
        refine join_ (σ := Value × Addr) 5 #[true, true, true, true, true, false, false, false, false, false] (fun s_ => [(60, s_.1), (62, .int .i64 t333)]) (fun s_ w' => (w'.cell? ⟨gb299, 0, none⟩ = some (.int .i64 t288) ∧ w'.cell? ⟨gb299, 1, none⟩ = some (.slice Ao9 t289.length co9) ∧ w'.cell? ⟨gb299, 2, none⟩ = some (.slice Ao10 t292.length co10) ∧ w'.cell? ⟨gb299, 3, none⟩ = some (.slice Ao11 t295.length co11)) ∧ (Kd.R (Kd.int .i64) 2 w' w.heap.size (fun k_ => (w.heap.size ≤ k_) ∧ some k_ ≠ (.slice Ao9 t289.length co9 : Value).ownBlock ∧ some k_ ≠ (.slice Ao10 t292.length co10 : Value).ownBlock ∧ some k_ ≠ (u5 : Value).ownBlock) s_.1 y330) ∧ (Kd.R (Kd.int .i64) 2 w' w.heap.size (fun k_ => (w.heap.size ≤ k_) ∧ some k_ ≠ (s_.1 : Value).ownBlock ∧ some k_ ≠ (.slice Ao10 t292.length co10 : Value).ownBlock ∧ some k_ ≠ (u5 : Value).ownBlock) (.slice Ao9 t289.length co9) t289) ∧ (Kd.R (Kd.int .i64) 2 w' w.heap.size (fun k_ => (w.heap.size ≤ k_) ∧ some k_ ≠ (s_.1 : Value).ownBlock ∧ some k_ ≠ (.slice Ao9 t289.length co9 : Value).ownBlock ∧ some k_ ≠ (u5 : Value).ownBlock) (.slice Ao10 t292.length co10) t292) ∧ (Kd.N k52 52 w' w.heap.size (fun k_ => (w.heap.size ≤ k_) ∧ some k_ ≠ (s_.1 : Value).ownBlock ∧ some k_ ≠ (.slice Ao9 t289.length co9 : Value).ownBlock ∧ some k_ ≠ (.slice Ao10 t292.length co10 : Value).ownBlock ∧ some k_ ≠ (u5 : Value).ownBlock ∧ k_ ≠ g ∧ k_ ≠ gb287 ∧ k_ ≠ gb299) (.slice Ao11 t295.length co11) t295) ∧ (Kd.R (Kd.int .i64) 2 w' w.heap.size (fun k_ => (w.heap.size ≤ k_) ∧ some k_ ≠ (s_.1 : Value).ownBlock ∧ some k_ ≠ (.slice Ao9 t289.length co9 : Value).ownBlock ∧ some k_ ≠ (.slice Ao10 t292.length co10 : Value).ownBlock) u5 x5_1) ∧ (∃ c_, (s_.1 : Value) = .slice (some s_.2) y330.length c_) ∧ (w'.heap[gb287]? = some (.cells #[.int .i64 0, .slice none 0 0, .slice none 0 0, .slice none 0 0] 30 (0, 0))) ∧ (w'.heap[gb299]? = some (.cells #[.int .i64 t288, .slice Ao9 t289.length co9, .slice Ao10 t292.length co10, .slice Ao11 t295.length co11] 30 (0, 0))) ∧ (IsS77 w0 w' g s0_0 t334) ∧ (KeepBut w w' g none) ∧ (Below w0.heap.size w0 w')) ?_ ?_
        rotate_left
        ·intro hCont
         refine two_ (i := 2) (j := 4) (Ni := some 60) (Nj := some 62) #[true, true, true, true, false, false, false, false, false, false] #[true, true, false, true, true, false, false, false, false, false] rfl rfl rfl rfl (two_of HT_.out (by kernel_rfl)) (by decide) (by decide) (fun K hK => ?_) (fun K hK => ?_)
         ·skip
          refine Kd.R_lit_step (Kd.int .i64) _ 2 ?hg (N := 60) ?hd (xs := ([0, 5, 6] : List Int)) (inner := [.int .i64 0, .int .i64 5, .int .i64 6]) (ok := fun _ => True) (okp := fun _ => True) ?hr ?hp (fun _ hk => hk) trivial (Below.refl _ _) (Nat.le_refl _) (by simp) ?_; (case hd => rfl); (case hg => rfl); (case hr => first | (go_simp; done) | (go_simp; rfl)); (case hp => exact (Reps.one (show Kd.M (Kd.int .i64) _ _ _ 0 [.int .i64 0] from rfl) (Reps.one (show Kd.M (Kd.int .i64) _ _ _ 5 [.int .i64 5] from rfl) (Reps.one (show Kd.M (Kd.int .i64) _ _ _ 6 [.int .i64 6] from rfl) (Reps.none _ _)))))
          intro v331 w97 ho98 hb hg_ hnew_
          clear hg_ hnew_
          (first | rw [← Ny330.out] at ho98 | (simp only [Int.reduceToNat] at ho98; rw [← Ny330.out] at ho98))
          replace HO_300003 := Aside0.mk (Kd.N_elder' (by (with_reducible repeat (first | apply Kd.N_alloc | apply Kd.N_drewN | apply Kd.N_drew)); exact HO_300003.out) (Kd.R_base ho98) hb)
          have HO332 := Aside0.mk (Kd.R_lower (Kd.R_new' (Kd.R_new' (Kd.R_new' (Kd.R_newM (M := fun k_ => (w.heap.size ≤ k_)) ho98 (keep_size (w := w) (g := g) (row := none) sAKeep_12) (fun k_ h_ => h_)) (rLt_ HO_5)) (rLt_ HO_300001)) (rLt_ HO_300002)) (keep_size (w := w) (g := g) (row := none) sAKeep_12))
          replace HO_5 := rE_ HO_5 ho98 hb; replace HO_300001 := rE_ HO_300001 ho98 hb; replace HO_300002 := rE_ HO_300002 ho98 hb; replace BK287 := bB_ BK287 hb; replace BK299 := bB_ BK299 hb
          replace HK := Aside0.mk (KeepBut.trans (w := w) (row := none) sAKeep_12 (KeepBut.of_below hb g none) (.inl rfl))
          replace HB := Aside0.mk (below_step sABelo_12 hb)
          replace HI0 := Aside0.mk (IsS77.below sAIsS77_12 hb)
          clear hb ho98
          obtain ⟨Ao99, co99, eo99⟩ := Kd.R_slice HO332.out
          subst eo99
          obtain ⟨ado99, fo99, _⟩ := Kd.at_int (Kd.R_reads' HO332.out).2.2 0 (by decide) (by rw [Ny330.out]; simp)
          cases fo99
          refine hK.out _ _ ⟨(blk_cell BK299.out 0).trans rfl, (blk_cell BK299.out 1).trans rfl, (blk_cell BK299.out 2).trans rfl, (blk_cell BK299.out 3).trans rfl⟩ (fun hHeld => ?_)
          clear hK K
          refine nS_ (some 60) ?_
          refine one_ (i := 4) (N := some 62) #[true, true, true, true, true, false, false, false, false, false] rfl rfl (one_of HT_.out (by kernel_rfl)) (by decide) (fun K hK => ?_)
          refine goes_ Try.func45 (by kernel_rfl) rfl #[.pointer (some ⟨g, 0, none⟩), .int .i64 3] (by rfl) rfl rfl (by (try simp only [List.map_toArray, List.map_cons, List.map_nil]); first | done | rfl | (simp only [List.length_drop, List.length_take]; rfl)) ?_
          with_reducible refine (spec_l1Rd_below.calls g s0_0 t309 3 t333 t334 w0 _ ?side1 ?side2 A87.out).mono ?_
          (case side1 => repeat (first | (with_reducible first | exact HI0.out | apply IsS77.alloc | apply IsS77.drewN | apply IsS77.drew | apply IsS77.set_1 | refine IsS77.far ?_ NB0_287.out _ | refine IsS77.far ?_ NB0_299.out _) | exact HI0.out))
          (case side2 => repeat (first | (with_reducible first | exact HB.out | apply below_alloc | apply pw_below_drewN | apply below_drew1 | refine below_set ?_ (IsS77.ge HI0.out) | refine below_set ?_ GE287.out | refine below_set ?_ GE299.out) | exact HB.out))
          rintro e w100 ⟨rfl, hi, hb, hk⟩
          refine ⟨_, rfl, ?_⟩
          replace HO_5 := Aside0.mk (Kd.R_mono (Kd.R_keep (IsS77.apart (show IsS77 w0 _ g s0_0 t309 from sAIsS77_12) (rT_ HO_5) (by decide)) hk (fun _ h => h.2)) (fun _ h => h.1))
          replace HO_300001 := Aside0.mk (Kd.R_mono (Kd.R_keep (IsS77.apart (show IsS77 w0 _ g s0_0 t309 from sAIsS77_12) (rT_ HO_300001) (by decide)) hk (fun _ h => h.2)) (fun _ h => h.1))
          replace HO_300002 := Aside0.mk (Kd.R_mono (Kd.R_keep (IsS77.apart (show IsS77 w0 _ g s0_0 t309 from sAIsS77_12) (rT_ HO_300002) (by decide)) hk (fun _ h => h.2)) (fun _ h => h.1))
          replace HO_300003 := Aside0.mk (Kd.N_mono (Kd.N_keep (Kd.N_mono (ok := fun k_ => ((((w.heap.size ≤ k_)) ∧ (some k_ ≠ (u5 : Value).ownBlock ∧ (some k_ ≠ (.slice Ao9 t289.length co9 : Value).ownBlock ∧ (some k_ ≠ (.slice Ao10 t292.length co10 : Value).ownBlock ∧ (k_ ≠ gb287 ∧ (k_ ≠ gb299 ∧ k_ ≠ g)))))) ∧ some k_ ≠ (.slice (some ado99) y330.length co99 : Value).ownBlock)) (by (with_reducible repeat (first | apply Kd.N_alloc | apply Kd.N_drewN | apply Kd.N_drew)); exact HO_300003.out) (fun k_ hk_ => (⟨hk_, hk_.1.2.2.2.2.2.2⟩ : _ ∧ k_ ≠ g))) hk (fun _ h => h.2)) (fun _ h => h.1))
          replace BK287 := Aside0.mk (KeepBut.blk hk (g' := gb287) (o := .cells #[.int .i64 0, .slice none 0 0, .slice none 0 0, .slice none 0 0] 30 (0, 0)) (bT_ BK287) NB287_0.out (by simp))
          replace BK299 := Aside0.mk (KeepBut.blk hk (g' := gb299) (o := .cells #[.int .i64 t288, .slice Ao9 t289.length co9, .slice Ao10 t292.length co10, .slice Ao11 t295.length co11] 30 (0, 0)) (bT_ BK299) NB299_0.out (by simp))
          replace HO332 := Aside0.mk (Kd.R_mono (Kd.R_keep (IsS77.apart (show IsS77 w0 _ g s0_0 t309 from sAIsS77_12) (rT_ HO332) (by decide)) hk (fun _ h => h.2)) (fun _ h => h.1))
          replace HK := Aside0.mk (KeepBut.trans (w := w) (row := none) sAKeep_12 hk (.inl rfl))
          replace HB := Aside0.mk (hb)
          replace HI0 := Aside0.mk (hi)
          (try clear hb); (try clear hk); (try clear hi)
          refine hK.out _ _ ⟨(blk_cell BK299.out 0).trans rfl, (blk_cell BK299.out 1).trans rfl, (blk_cell BK299.out 2).trans rfl, (blk_cell BK299.out 3).trans rfl⟩ (fun hHeld => ?_)
          clear hK K
          refine nS_ (some 62) ?_
          exact norm_ (by simp only [putAll, Act.put, List.setIfInBounds_toArray, List.set_cons_zero, List.set_cons_succ]) (hCont (.slice (some ado99) y330.length co99, ado99) _ ⟨hHeld, (rM_ HO332), (rM_ HO_300001), (rM_ HO_300002), (by (with_reducible repeat (first | apply Kd.N_alloc | apply Kd.N_drewN | apply Kd.N_drew)); exact Kd.N_mono HO_300003.out (fun _ hk => ⟨hk.1.1, ⟨hk.2, ⟨hk.1.2.2.1, ⟨hk.1.2.2.2.1, ⟨hk.1.2.1, ⟨hk.1.2.2.2.2.2.2, ⟨hk.1.2.2.2.2.1, hk.1.2.2.2.2.2.1⟩⟩⟩⟩⟩⟩⟩)), (rM_ HO_5), ⟨_, rfl⟩, (bT_ BK287), (bT_ BK299), sAIsS77_12, sAKeep_12, sABelo_12⟩)
         ·skip
          refine goes_ Try.func45 (by kernel_rfl) rfl #[.pointer (some ⟨g, 0, none⟩), .int .i64 3] (by rfl) rfl rfl (by (try simp only [List.map_toArray, List.map_cons, List.map_nil]); first | done | rfl | (simp only [List.length_drop, List.length_take]; rfl)) ?_
          with_reducible refine (spec_l1Rd_below.calls g s0_0 t309 3 t333 t334 w0 _ ?side1 ?side2 A87.out).mono ?_
          (case side1 => repeat (first | (with_reducible first | exact HI0.out | apply IsS77.alloc | apply IsS77.drewN | apply IsS77.drew | apply IsS77.set_1 | refine IsS77.far ?_ NB0_287.out _ | refine IsS77.far ?_ NB0_299.out _) | exact HI0.out))
          (case side2 => repeat (first | (with_reducible first | exact HB.out | apply below_alloc | apply pw_below_drewN | apply below_drew1 | refine below_set ?_ (IsS77.ge HI0.out) | refine below_set ?_ GE287.out | refine below_set ?_ GE299.out) | exact HB.out))
          rintro e w97 ⟨rfl, hi, hb, hk⟩
          refine ⟨_, rfl, ?_⟩
          replace HO_5 := Aside0.mk (Kd.R_mono (Kd.R_keep (IsS77.apart (show IsS77 w0 _ g s0_0 t309 from sAIsS77_12) (rT_ HO_5) (by decide)) hk (fun _ h => h.2)) (fun _ h => h.1))
          replace HO_300001 := Aside0.mk (Kd.R_mono (Kd.R_keep (IsS77.apart (show IsS77 w0 _ g s0_0 t309 from sAIsS77_12) (rT_ HO_300001) (by decide)) hk (fun _ h => h.2)) (fun _ h => h.1))
          replace HO_300002 := Aside0.mk (Kd.R_mono (Kd.R_keep (IsS77.apart (show IsS77 w0 _ g s0_0 t309 from sAIsS77_12) (rT_ HO_300002) (by decide)) hk (fun _ h => h.2)) (fun _ h => h.1))
          replace HO_300003 := Aside0.mk (Kd.N_mono (Kd.N_keep (Kd.N_mono (ok := fun k_ => (((w.heap.size ≤ k_)) ∧ (some k_ ≠ (u5 : Value).ownBlock ∧ (some k_ ≠ (.slice Ao9 t289.length co9 : Value).ownBlock ∧ (some k_ ≠ (.slice Ao10 t292.length co10 : Value).ownBlock ∧ (k_ ≠ gb287 ∧ (k_ ≠ gb299 ∧ k_ ≠ g))))))) (by (with_reducible repeat (first | apply Kd.N_alloc | apply Kd.N_drewN | apply Kd.N_drew)); exact HO_300003.out) (fun k_ hk_ => (⟨hk_, hk_.2.2.2.2.2.2⟩ : _ ∧ k_ ≠ g))) hk (fun _ h => h.2)) (fun _ h => h.1))
          replace BK287 := Aside0.mk (KeepBut.blk hk (g' := gb287) (o := .cells #[.int .i64 0, .slice none 0 0, .slice none 0 0, .slice none 0 0] 30 (0, 0)) (bT_ BK287) NB287_0.out (by simp))
          replace BK299 := Aside0.mk (KeepBut.blk hk (g' := gb299) (o := .cells #[.int .i64 t288, .slice Ao9 t289.length co9, .slice Ao10 t292.length co10, .slice Ao11 t295.length co11] 30 (0, 0)) (bT_ BK299) NB299_0.out (by simp))
          replace HK := Aside0.mk (KeepBut.trans (w := w) (row := none) sAKeep_12 hk (.inl rfl))
          replace HB := Aside0.mk (hb)
          replace HI0 := Aside0.mk (hi)
          (try clear hb); (try clear hk); (try clear hi)
          refine hK.out _ _ ⟨(blk_cell BK299.out 0).trans rfl, (blk_cell BK299.out 1).trans rfl, (blk_cell BK299.out 2).trans rfl, (blk_cell BK299.out 3).trans rfl⟩ (fun hHeld => ?_)
          clear hK K
          refine nS_ (some 62) ?_
          refine one_ (i := 2) (N := some 60) #[true, true, true, true, true, false, false, false, false, false] rfl rfl (one_of HT_.out (by kernel_rfl)) (by decide) (fun K hK => ?_)
          refine Kd.R_lit_step (Kd.int .i64) _ 2 ?hg (N := 60) ?hd (xs := ([0, 5, 6] : List Int)) (inner := [.int .i64 0, .int .i64 5, .int .i64 6]) (ok := fun _ => True) (okp := fun _ => True) ?hr ?hp (fun _ hk => hk) trivial (Below.refl _ _) (Nat.le_refl _) (by simp) ?_; (case hd => rfl); (case hg => rfl); (case hr => first | (go_simp; done) | (go_simp; rfl)); (case hp => exact (Reps.one (show Kd.M (Kd.int .i64) _ _ _ 0 [.int .i64 0] from rfl) (Reps.one (show Kd.M (Kd.int .i64) _ _ _ 5 [.int .i64 5] from rfl) (Reps.one (show Kd.M (Kd.int .i64) _ _ _ 6 [.int .i64 6] from rfl) (Reps.none _ _)))))
          intro v331 w98 ho99 hb hg_ hnew_
          clear hg_ hnew_
          (first | rw [← Ny330.out] at ho99 | (simp only [Int.reduceToNat] at ho99; rw [← Ny330.out] at ho99))
          replace HO_300003 := Aside0.mk (Kd.N_elder' (by (with_reducible repeat (first | apply Kd.N_alloc | apply Kd.N_drewN | apply Kd.N_drew)); exact HO_300003.out) (Kd.R_base ho99) hb)
          have HO332 := Aside0.mk (Kd.R_lower (Kd.R_new' (Kd.R_new' (Kd.R_new' (Kd.R_newM (M := fun k_ => (w.heap.size ≤ k_)) ho99 (keep_size (w := w) (g := g) (row := none) sAKeep_12) (fun k_ h_ => h_)) (rLt_ HO_5)) (rLt_ HO_300001)) (rLt_ HO_300002)) (keep_size (w := w) (g := g) (row := none) sAKeep_12))
          replace HO_5 := rE_ HO_5 ho99 hb; replace HO_300001 := rE_ HO_300001 ho99 hb; replace HO_300002 := rE_ HO_300002 ho99 hb; replace BK287 := bB_ BK287 hb; replace BK299 := bB_ BK299 hb
          replace HK := Aside0.mk (KeepBut.trans (w := w) (row := none) sAKeep_12 (KeepBut.of_below hb g none) (.inl rfl))
          replace HB := Aside0.mk (below_step sABelo_12 hb)
          replace HI0 := Aside0.mk (IsS77.below sAIsS77_12 hb)
          clear hb ho99
          obtain ⟨Ao100, co100, eo100⟩ := Kd.R_slice HO332.out
          subst eo100
          obtain ⟨ado100, fo100, _⟩ := Kd.at_int (Kd.R_reads' HO332.out).2.2 0 (by decide) (by rw [Ny330.out]; simp)
          cases fo100
          refine hK.out _ _ ⟨(blk_cell BK299.out 0).trans rfl, (blk_cell BK299.out 1).trans rfl, (blk_cell BK299.out 2).trans rfl, (blk_cell BK299.out 3).trans rfl⟩ (fun hHeld => ?_)
          clear hK K
          refine nS_ (some 60) ?_
          exact norm_ (by simp only [putAll, Act.put, List.setIfInBounds_toArray, List.set_cons_zero, List.set_cons_succ]) (hCont (.slice (some ado100) y330.length co100, ado100) _ ⟨hHeld, (rM_ HO332), (rM_ HO_300001), (rM_ HO_300002), (by (with_reducible repeat (first | apply Kd.N_alloc | apply Kd.N_drewN | apply Kd.N_drew)); exact Kd.N_mono HO_300003.out (fun _ hk => ⟨hk.1.1, ⟨hk.2, ⟨hk.1.2.2.1, ⟨hk.1.2.2.2.1, ⟨hk.1.2.1, ⟨hk.1.2.2.2.2.2.2, ⟨hk.1.2.2.2.2.1, hk.1.2.2.2.2.2.1⟩⟩⟩⟩⟩⟩⟩)), (rM_ HO_5), ⟨_, rfl⟩, (bT_ BK287), (bT_ BK299), sAIsS77_12, sAKeep_12, sABelo_12⟩)
        rintro ⟨v331, adz_v331⟩ w101 ⟨hS_, h0_, h1_, h2_, h3_, h4_, h5_, h6_, h7_, h8_, h9_, h10_⟩
        try dsimp only at h0_ h1_ h2_ h3_ h4_ h5_ h6_ h7_ h8_ h9_ h10_
        have HO332 := Aside0.mk h0_; replace HO_300001 := Aside0.mk h1_; replace HO_300002 := Aside0.mk h2_; replace HO_300003 := Aside0.mk h3_; replace HO_5 := Aside0.mk h4_; have HA_HO332 := Aside0.mk h5_; replace BK287 := Aside0.mk h6_; replace BK299 := Aside0.mk h7_; replace HI0 := Aside0.mk h8_; replace HK := Aside0.mk h9_; replace HB := Aside0.mk h10_; clear h0_ h1_ h2_ h3_ h4_ h5_ h6_ h7_ h8_ h9_ h10_
        have hHeld : w101.cell? ⟨gb299, 0, none⟩ = some (.int .i64 t288) ∧ w101.cell? ⟨gb299, 1, none⟩ = some (.slice Ao9 t289.length co9) ∧ w101.cell? ⟨gb299, 2, none⟩ = some (.slice Ao10 t292.length co10) ∧ w101.cell? ⟨gb299, 3, none⟩ = some (.slice Ao11 t295.length co11) := hS_
        obtain ⟨co102, eo102⟩ := HA_HO332.out
        clear HA_HO332
        subst eo102
        have p91 : 0 ≤ (0 : Int) := (by omega)
        have q91 : (0 : Int) < ((t295.length : Int) : Int) := dA_
        have qi91 : (0 < t295.length) = True := eq_true (by omega)
        obtain ⟨go91, co91, eo91, gb91, gl91, cl91, HG91⟩ := Kd.N_form HO_300003.out (by omega)
        (first | cases eo91 | (injection eo91 with ea_ en_ ec_; (first | subst ea_ | (injection ea_ with ea_; subst ea_)); subst ec_; clear en_))
        have GB91 := Aside0.mk gb91; have GL91 := Aside0.mk (Nat.le_trans HL.out GB91.out); have GG91 := Aside0.mk HG91; clear gb91 gl91 HG91
        obtain ⟨ce91, hcl91, hM91, hcc91, hfr91⟩ := Kd.N_elem HO_300003.out z52 (0 : Int) p91 q91
        obtain ⟨ua91_0, uc91_0, rfl, ul91_0, ge91_0⟩ := k52_openF hM91
        have hx91_0 : World.cell? _ ⟨go91, (0 : Int).toNat * 3, none⟩ = some (.slice ua91_0 ((rd_T52 t295 0).f0).length uc91_0) := hcc91 0 _ rfl
        have hx91_1 : World.cell? _ ⟨go91, (0 : Int).toNat * 3 + 1, none⟩ = some (.int .i64 ((rd_T52 t295 0).f1)) := hcc91 1 _ rfl
        have hx91_2 : World.cell? _ ⟨go91, (0 : Int).toNat * 3 + 2, none⟩ = some (.int .i64 ((rd_T52 t295 0).f2)) := hcc91 2 _ rfl
        have hf91_0 : World.frozen? _ ⟨go91, (0 : Int).toNat * 3, none⟩ = false := hfr91 0
        have hf91_1 : World.frozen? _ ⟨go91, (0 : Int).toNat * 3 + 1, none⟩ = false := hfr91 1
        have hf91_2 : World.frozen? _ ⟨go91, (0 : Int).toNat * 3 + 2, none⟩ = false := hfr91 2
        clear hcl91 hcc91 hfr91 hM91
        (try rw [show ((0 : Int)).toNat = 0 from rfl] at hx91_0)
        (try simp only [Nat.reduceMul, Nat.zero_mul, Nat.zero_add, Nat.reduceAdd] at hx91_0)
        (try rw [show ((0 : Int)).toNat = 0 from rfl] at hf91_0)
        (try simp only [Nat.reduceMul, Nat.zero_mul, Nat.zero_add, Nat.reduceAdd] at hf91_0)
        (try rw [show ((0 : Int)).toNat = 0 from rfl] at hx91_1)
        (try simp only [Nat.reduceMul, Nat.zero_mul, Nat.zero_add, Nat.reduceAdd] at hx91_1)
        (try rw [show ((0 : Int)).toNat = 0 from rfl] at hf91_1)
        (try simp only [Nat.reduceMul, Nat.zero_mul, Nat.zero_add, Nat.reduceAdd] at hf91_1)
        (try rw [show ((0 : Int)).toNat = 0 from rfl] at hx91_2)
        (try simp only [Nat.reduceMul, Nat.zero_mul, Nat.zero_add, Nat.reduceAdd] at hx91_2)
        (try rw [show ((0 : Int)).toNat = 0 from rfl] at hf91_2)
        (try simp only [Nat.reduceMul, Nat.zero_mul, Nat.zero_add, Nat.reduceAdd] at hf91_2)
        replace p91 := eq_true p91; replace q91 := eq_true q91
        have HN0_go91 := Aside0.mk (show g ≠ go91 from by have h_ := IsS77.own_neN HI0.out HO_300003.out (by decide); intro e_; exact h_ (by rw [e_]; rfl))
        have HX103 := Aside0.mk (show Kd.N k52 52 _ w.heap.size (fun k_ => (w.heap.size ≤ k_) ∧ some k_ ≠ (u5 : Value).ownBlock ∧ some k_ ≠ (.slice Ao9 t289.length co9 : Value).ownBlock ∧ some k_ ≠ (.slice Ao10 t292.length co10 : Value).ownBlock ∧ some k_ ≠ (.slice (some adz_v331) y330.length co102 : Value).ownBlock ∧ k_ ≠ gb287 ∧ k_ ≠ gb299 ∧ k_ ≠ g) (.slice (some ⟨go91, 0, none⟩) t295.length co11) t295 from (Kd.N_mono (HO_300003.out) (fun k_ hk => ⟨hk.1, ⟨hk.2.2.2.2.1, ⟨hk.2.2.1, ⟨hk.2.2.2.1, ⟨hk.2.1, ⟨hk.2.2.2.2.2.2.1, ⟨hk.2.2.2.2.2.2.2, hk.2.2.2.2.2.1⟩⟩⟩⟩⟩⟩⟩)))
        obtain ⟨ce103, hcl103, hM103, hcc103, hfr103⟩ := Kd.N_elem HX103.out z52 (0 : Int) (by omega) (by have h_ : (0 : Int) < ((t295.length : Int) : Int) := dA_; first | exact h_ | (have e_ := (Kd.N_reads' HO_300003.out).1; omega) | simpa using h_)
        obtain ⟨ua103_0, uc103_0, rfl, ul103_0, ge103_0⟩ := k52_openF hM103
        have HP103 := (Kd.N_seg HX103.out (0 : Int) (by omega) (by have h_ : (0 : Int) < ((t295.length : Int) : Int) := dA_; first | exact h_ | (have e_ := (Kd.N_reads' HO_300003.out).1; omega) | simpa using h_) (seg := [.int .i64 (rd y330 t333)]) (j := 2) hcl103 hcc103 (show 3 ≤ 3 from by decide) (x' := (⟨(rd_T52 t295 0).f0, (rd_T52 t295 0).f1, rd y330 t333⟩ : S52)) (k52_mkF _ _ (⟨(rd_T52 t295 0).f0, (rd_T52 t295 0).f1, rd y330 t333⟩ : S52) ul103_0 ge103_0) (fun _ hk => hk)).1
        rw [← Ny336.out] at HP103
        have HQ103 := Aside0.mk HP103; clear hcl103 hcc103 hfr103 hM103 HP103
        refine norm_ (a' := ?_) ?_ ?_
        rotate_left
        ·simp only [putAll, Act.put, List.setIfInBounds_toArray, List.set_cons_zero, List.set_cons_succ]
         rfl
        refine pT_ 5 (some 63) #[true, true, true, true, true, true, false, false, false, false] HT_ ?_
        refine one_ (i := 6) (N := some 64) #[true, true, true, true, true, true, true, false, false, false] rfl rfl (one_of HT_.out (by kernel_rfl)) (by decide) (fun K hK => ?_)
        (have p335 : 0 ≤ (t333 : Int) := dA_; have q335 : t333 < (y330.length : Int) := dA_; obtain ⟨ad335, e335, hx335_0⟩ := Kd.at_int (Kd.R_reads' HO332.out).2.2 t333 p335 q335; obtain rfl : adz_v331 = ad335 := (by injection e335))
        refine value_ (w1 := ?_) (v := ?_) (by rfl) rfl ?_ ?_
        rotate_left 2
        ·go_simp
         constructor
         ·rfl
         ·rfl
        clear hx335_0
        refine hK.out _ _ ⟨(blk_cell BK299.out 0).trans rfl, (blk_cell BK299.out 1).trans rfl, (blk_cell BK299.out 2).trans rfl, (blk_cell BK299.out 3).trans rfl⟩ (fun hHeld => ?_)
        clear hK K
        refine nS_ (some 64) ?_
        refine pT_ 7 (some 65) #[true, true, true, true, true, true, true, true, false, false] HT_ ?_
        refine pT_ 8 (some 66) #[true, true, true, true, true, true, true, true, true, false] HT_ ?_
        refine last_ (i := 9) (N := none) #[true, true, true, true, true, true, true, true, true, true] rfl rfl (one_of HT_.out (by kernel_rfl)) (by decide) (fun K hK => ?_)
        refine skip_ (w1 := ?_) (by rfl) rfl ?_ ?_
        rotate_left
        ·go_simp
         rfl
        refine hK.out _ _ ?_
        clear hK K
        refine done_ (done_of HT_.out (by kernel_rfl)) ?_
        have n0_ : Aside0 (Kd.R (Kd.int .i64) 2 (w101.setCell ⟨go91, 2, none⟩ (.int .i64 (rd y330 t333))) w.heap.size (fun k_ => (w.heap.size ≤ k_) ∧ some k_ ≠ (.slice Ao9 t289.length co9 : Value).ownBlock ∧ some k_ ≠ (.slice Ao10 t292.length co10 : Value).ownBlock ∧ some k_ ≠ (.slice (some adz_v331) y330.length co102 : Value).ownBlock) u5 x5_1) := ⟨by (with_reducible repeat (first | apply Kd.R_alloc | apply Kd.R_drewN | apply Kd.R_drew)); exact Kd.R_mono (Kd.R_far (p := ⟨go91, 2, none⟩) (Kd.R_types HO_5.out GG91.out (by decide)) (fun _ hk => hk.2) (.int .i64 (rd y330 t333))) (fun _ hk => ⟨hk.1.1, ⟨hk.1.2.2.1, ⟨hk.1.2.2.2, hk.1.2.1⟩⟩⟩)⟩
        have n1_ : Aside0 (Kd.R (Kd.int .i64) 2 (w101.setCell ⟨go91, 2, none⟩ (.int .i64 (rd y330 t333))) w.heap.size (fun k_ => (w.heap.size ≤ k_) ∧ some k_ ≠ (u5 : Value).ownBlock ∧ some k_ ≠ (.slice Ao10 t292.length co10 : Value).ownBlock ∧ some k_ ≠ (.slice (some adz_v331) y330.length co102 : Value).ownBlock) (.slice Ao9 t289.length co9) t289) := ⟨by (with_reducible repeat (first | apply Kd.R_alloc | apply Kd.R_drewN | apply Kd.R_drew)); exact Kd.R_mono (Kd.R_far (p := ⟨go91, 2, none⟩) (Kd.R_types HO_300001.out GG91.out (by decide)) (fun _ hk => hk.2) (.int .i64 (rd y330 t333))) (fun _ hk => ⟨hk.1.1, ⟨hk.1.2.2.2, ⟨hk.1.2.2.1, hk.1.2.1⟩⟩⟩)⟩
        have n2_ : Aside0 (Kd.R (Kd.int .i64) 2 (w101.setCell ⟨go91, 2, none⟩ (.int .i64 (rd y330 t333))) w.heap.size (fun k_ => (w.heap.size ≤ k_) ∧ some k_ ≠ (u5 : Value).ownBlock ∧ some k_ ≠ (.slice Ao9 t289.length co9 : Value).ownBlock ∧ some k_ ≠ (.slice (some adz_v331) y330.length co102 : Value).ownBlock) (.slice Ao10 t292.length co10) t292) := ⟨by (with_reducible repeat (first | apply Kd.R_alloc | apply Kd.R_drewN | apply Kd.R_drew)); exact Kd.R_mono (Kd.R_far (p := ⟨go91, 2, none⟩) (Kd.R_types HO_300002.out GG91.out (by decide)) (fun _ hk => hk.2) (.int .i64 (rd y330 t333))) (fun _ hk => ⟨hk.1.1, ⟨hk.1.2.2.2, ⟨hk.1.2.2.1, hk.1.2.1⟩⟩⟩)⟩
        have n3_ : Aside0 (Kd.N k52 52 (w101.setCell ⟨go91, 2, none⟩ (.int .i64 (rd y330 t333))) w.heap.size (fun k_ => (w.heap.size ≤ k_) ∧ some k_ ≠ (u5 : Value).ownBlock ∧ some k_ ≠ (.slice Ao9 t289.length co9 : Value).ownBlock ∧ some k_ ≠ (.slice Ao10 t292.length co10 : Value).ownBlock ∧ some k_ ≠ (.slice (some adz_v331) y330.length co102 : Value).ownBlock ∧ k_ ≠ g ∧ k_ ≠ gb287 ∧ k_ ≠ gb299) (.slice (some ⟨go91, 0, none⟩) t295.length co11) y336) := ⟨by (with_reducible repeat (first | apply Kd.N_alloc | apply Kd.N_drewN | apply Kd.N_drew)); exact Kd.N_mono HQ103.out (fun _ hk => ⟨hk.1, ⟨hk.2.1, ⟨hk.2.2.1, ⟨hk.2.2.2.1, ⟨hk.2.2.2.2.1, ⟨hk.2.2.2.2.2.2.2, ⟨hk.2.2.2.2.2.1, hk.2.2.2.2.2.2.1⟩⟩⟩⟩⟩⟩⟩)⟩
        have n4_ : Aside0 (Kd.R (Kd.int .i64) 2 (w101.setCell ⟨go91, 2, none⟩ (.int .i64 (rd y330 t333))) w.heap.size (fun k_ => (w.heap.size ≤ k_) ∧ some k_ ≠ (u5 : Value).ownBlock ∧ some k_ ≠ (.slice Ao9 t289.length co9 : Value).ownBlock ∧ some k_ ≠ (.slice Ao10 t292.length co10 : Value).ownBlock) (.slice (some adz_v331) y330.length co102) y330) := ⟨by (with_reducible repeat (first | apply Kd.R_alloc | apply Kd.R_drewN | apply Kd.R_drew)); exact Kd.R_mono (Kd.R_far (p := ⟨go91, 2, none⟩) (Kd.R_types HO332.out GG91.out (by decide)) (fun _ hk => hk.2) (.int .i64 (rd y330 t333))) (fun _ hk => ⟨hk.1.1, ⟨hk.1.2.2.2, ⟨hk.1.2.1, hk.1.2.2.1⟩⟩⟩)⟩
        have n5_ : Aside0 ((w101.setCell ⟨go91, 2, none⟩ (.int .i64 (rd y330 t333))).heap[gb287]? = some (.cells #[.int .i64 0, .slice none 0 0, .slice none 0 0, .slice none 0 0] 30 (0, 0))) := ⟨by (with_reducible repeat (first | refine blk_drewN ?_ _ | refine blk_drew ?_ | refine blk_alloc ?_ _)); refine blk_far ?_ (by have h_ := Kd.N_away HO_300003.out (fun _ hk => hk.2.2.2.2.2.2.1); intro e_; exact h_ (by rw [e_]; rfl)) _; exact bT_ BK287⟩
        have n6_ : Aside0 ((w101.setCell ⟨go91, 2, none⟩ (.int .i64 (rd y330 t333))).heap[gb299]? = some (.cells #[.int .i64 t288, .slice Ao9 t289.length co9, .slice Ao10 t292.length co10, .slice (some ⟨go91, 0, none⟩) t295.length co11] 30 (0, 0))) := ⟨by (with_reducible repeat (first | refine blk_drewN ?_ _ | refine blk_drew ?_ | refine blk_alloc ?_ _)); refine blk_far ?_ (by have h_ := Kd.N_away HO_300003.out (fun _ hk => hk.2.2.2.2.2.2.2); intro e_; exact h_ (by rw [e_]; rfl)) _; exact bT_ BK299⟩
        have n7_ : Aside0 (IsS77 w0 (w101.setCell ⟨go91, 2, none⟩ (.int .i64 (rd y330 t333))) g s0_0 t334) := ⟨sAIsS77_12⟩
        have n8_ : Aside0 (KeepBut w (w101.setCell ⟨go91, 2, none⟩ (.int .i64 (rd y330 t333))) g none) := ⟨sAKeep_12⟩
        have n9_ : Aside0 (Below w0.heap.size w0 (w101.setCell ⟨go91, 2, none⟩ (.int .i64 (rd y330 t333)))) := ⟨sABelo_12⟩
        (try clear HO_5); (try clear HO_300001); (try clear HO_300002); (try clear HO_300003); (try clear HO332); (try clear BK287); (try clear BK299); (try clear HI0); (try clear HK); (try clear HB)
        generalize (w101.setCell ⟨go91, 2, none⟩ (.int .i64 (rd y330 t333))) = w104 at n0_ n1_ n2_ n3_ n4_ n5_ n6_ n7_ n8_ n9_ ⊢
        have HO_5 := n0_; have HO_300001 := n1_; have HO_300002 := n2_; have HO_300003 := n3_; have HO332 := n4_; have BK287 := n5_; have BK299 := n6_; have HI0 := n7_; have HK := n8_; have HB := n9_; clear n0_ n1_ n2_ n3_ n4_ n5_ n6_ n7_ n8_ n9_
        obtain ⟨hcz105_0, hcz105_1, hcz105_2, hcz105_3, hfz105_0, hfz105_1, hfz105_2, hfz105_3⟩ := cf4_ BK299; have hnb106 := NB287_0.out; have hnc106 := NB0_287.out
        obtain ⟨hcz107_0, hcz107_1, hcz107_2, hcz107_3, hfz107_0, hfz107_1, hfz107_2, hfz107_3⟩ := cf4_ BK287
        try go_wp2
        refine bodyPost_ret (results_ct rfl _ _ gb287 30 #[.int .i64 t288, .slice Ao9 t289.length co9, .slice Ao10 t292.length co10, .slice (some ⟨go91, 0, none⟩) t295.length co11] (0, 0) _ rfl (bP_ BK287) Try.underlying30 rfl (by kernel_rfl)) rfl ?_
        exact ⟨_, _, _, _, by first | rfl | (simp [errW_none, errW_some] <;> rfl) | (simp [*, errW_none, errW_some] <;> rfl), by (with_reducible repeat (first | apply Kd.R_alloc | apply Kd.R_drewN | apply Kd.R_drew)); exact Kd.R_mono (Kd.R_far (p := ⟨gb287, 3, none⟩) (Kd.R_far (p := ⟨gb287, 2, none⟩) (Kd.R_far (p := ⟨gb287, 1, none⟩) (Kd.R_far (p := ⟨gb287, 0, none⟩) (Kd.R_types HO_300001.out BK287.out (by decide)) (fun _ hk => hk.2) (.int .i64 t288)) (fun _ hk => hk.2) (.slice Ao9 t289.length co9)) (fun _ hk => hk.2) (.slice Ao10 t292.length co10)) (fun _ hk => hk.2) (.slice (some ⟨go91, 0, none⟩) t295.length co11)) (fun _ hk => ⟨hk.1.1, ⟨hk.1.2.2.1, hk.1.2.1⟩⟩), by (with_reducible repeat (first | apply Kd.R_alloc | apply Kd.R_drewN | apply Kd.R_drew)); exact Kd.R_mono (Kd.R_far (p := ⟨gb287, 3, none⟩) (Kd.R_far (p := ⟨gb287, 2, none⟩) (Kd.R_far (p := ⟨gb287, 1, none⟩) (Kd.R_far (p := ⟨gb287, 0, none⟩) (Kd.R_types HO_300002.out BK287.out (by decide)) (fun _ hk => hk.2) (.int .i64 t288)) (fun _ hk => hk.2) (.slice Ao9 t289.length co9)) (fun _ hk => hk.2) (.slice Ao10 t292.length co10)) (fun _ hk => hk.2) (.slice (some ⟨go91, 0, none⟩) t295.length co11)) (fun _ hk => ⟨hk.1.1, ⟨hk.1.2.2.1, hk.1.2.1⟩⟩), by (with_reducible repeat (first | apply Kd.N_alloc | apply Kd.N_drewN | apply Kd.N_drew)); exact Kd.N_mono (Kd.N_far (p := ⟨gb287, 3, none⟩) (Kd.N_far (p := ⟨gb287, 2, none⟩) (Kd.N_far (p := ⟨gb287, 1, none⟩) (Kd.N_far (p := ⟨gb287, 0, none⟩) (Kd.N_mono HO_300003.out (fun k_ hk => (⟨hk, hk.2.2.2.2.2.2.1⟩ : _ ∧ k_ ≠ gb287))) (fun _ hk => hk.2) (.int .i64 t288)) (fun _ hk => hk.2) (.slice Ao9 t289.length co9)) (fun _ hk => hk.2) (.slice Ao10 t292.length co10)) (fun _ hk => hk.2) (.slice (some ⟨go91, 0, none⟩) t295.length co11)) (fun _ hk => ⟨hk.1.1, ⟨hk.1.2.2.1, ⟨hk.1.2.2.2.1, hk.1.2.1⟩⟩⟩), by (with_reducible repeat (first | apply Kd.R_alloc | apply Kd.R_drewN | apply Kd.R_drew)); exact Kd.R_mono (Kd.R_far (p := ⟨gb287, 3, none⟩) (Kd.R_far (p := ⟨gb287, 2, none⟩) (Kd.R_far (p := ⟨gb287, 1, none⟩) (Kd.R_far (p := ⟨gb287, 0, none⟩) (Kd.R_types HO_5.out BK287.out (by decide)) (fun _ hk => hk.2) (.int .i64 t288)) (fun _ hk => hk.2) (.slice Ao9 t289.length co9)) (fun _ hk => hk.2) (.slice Ao10 t292.length co10)) (fun _ hk => hk.2) (.slice (some ⟨go91, 0, none⟩) t295.length co11)) (fun _ hk => ⟨hk.1.1, ⟨hk.1.2.1, hk.1.2.2.1⟩⟩), sAIsS77_12, sABelo_12, sAKeep_12⟩
       ·rw [if_neg c86] at H
        have c86b0 := beq_eq_false_iff_ne.mpr c86
        have c86b1 := bne_iff_ne.mpr c86
        by_cases c108 : t308 = 4
        ·rw [if_pos c108] at H
         exact absurd H (by simp)
        ·rw [if_neg c108] at H
         have c108b0 := beq_eq_false_iff_ne.mpr c108
         have c108b1 := bne_iff_ne.mpr c108
         by_cases c131 : t308 = 5
         ·rw [if_pos c131] at H
          have c131b0 := beq_iff_eq.mpr c131
          have c131b1 := bne_eq_false_iff_eq.mpr c131
          clear c131
          obtain ⟨y345, hy345⟩ : ∃ y_ : List Int, y_ = (([500, 501, 200000, 200001, (-500)] : List Int)) := ⟨_, rfl⟩
          replace H : ((spec_l1Rd_below.f s0_0 t309 5).bind fun bt348 => (if 0 ≤ bt348.1 then (if bt348.1 < (y345.length : Int) then (if 0 < (x5_1.length : Int) then (some (t288, t289, t292, t295, (x5_1.set (0 : Int).toNat (rd y345 bt348.1)), bt348.2)) else (none)) else (none)) else (none))) = some (r1, r2, r3, r4, r5, r6) := by first | (rw [hy345]; with_reducible exact H) | (have H2_ := (Option.bind_some _ _).symm.trans H; rw [hy345]; with_reducible exact H2_) | (have H2_ := (Option.bind_some _ _).symm.trans H; with_reducible exact H2_) | with_reducible exact H | (rw [hy345]; exact H) | exact H
          have Ny345 := Aside0.mk hy345; clear hy345; replace H := Option.bind_eq_some_iff.mp H
          obtain ⟨⟨t348, t349⟩, A1320, H⟩ := H
          replace H : (if 0 ≤ t348 then (if t348 < (y345.length : Int) then (if 0 < (x5_1.length : Int) then (some (t288, t289, t292, t295, (x5_1.set (0 : Int).toNat (rd y345 t348)), t349)) else (none)) else (none)) else (none)) = some (r1, r2, r3, r4, r5, r6) := H
          have A132 := Aside0.mk A1320; clear A1320
          obtain ⟨c133, H⟩ := ifS_ H
          have c133b0 : decide (0 ≤ t348) = true := decide_eq_true c133
          clear c133
          obtain ⟨c134, H⟩ := ifS_ H
          have c134b0 : decide (t348 < (y345.length : Int)) = true := decide_eq_true c134
          clear c134
          obtain ⟨c135, H⟩ := ifS_ H
          have c135b0 : decide (0 < (x5_1.length : Int)) = true := decide_eq_true c135
          have c135b1 : decide (0 < x5_1.length) = true := decide_eq_true (by omega)
          clear c135
          obtain ⟨y351, hy351⟩ : ∃ y_ : List Int, y_ = (x5_1.set (0 : Int).toNat (rd y345 t348)) := ⟨_, rfl⟩
          replace H : (some (t288, t289, t292, t295, y351, t349)) = some (r1, r2, r3, r4, r5, r6) := by first | (rw [hy351]; with_reducible exact H) | (have H2_ := (Option.bind_some _ _).symm.trans H; rw [hy351]; with_reducible exact H2_) | (have H2_ := (Option.bind_some _ _).symm.trans H; with_reducible exact H2_) | with_reducible exact H | (rw [hy351]; exact H) | exact H
          have Ny351 := Aside0.mk hy351; clear hy351
          simp only [Option.some.injEq, Prod.mk.injEq] at H
          obtain ⟨rfl, rfl, rfl, rfl, rfl, rfl⟩ := H
          have hnb137 := NB299_287.out; have hnc137 := NB287_299.out; have hnb138 := NB299_0.out; have hnc138 := NB0_299.out
          obtain ⟨hcz139_0, hcz139_1, hcz139_2, hcz139_3, hfz139_0, hfz139_1, hfz139_2, hfz139_3⟩ := cf4_ BK299
          go_wp2_with (first | ((with_reducible refine gate_callee (f := 45) rfl ?_); refine gL_ (some 24) Try.func45 #[.pointer (some ⟨g, 0, none⟩), .int .i64 30] ?_; (with_reducible refine (spec_l1Rd_below.calls g s0_0 x1001_1 30 t308 t309 w0 _ ?side1 ?side2 A22.out).mono ?_); (case side1 => repeat (first | (with_reducible first | exact HI0.out | apply IsS77.alloc | apply IsS77.drewN | apply IsS77.drew | apply IsS77.set_1 | refine IsS77.far ?_ NB0_287.out _ | refine IsS77.far ?_ NB0_299.out _) | exact HI0.out)); (case side2 => repeat (first | (with_reducible first | exact HB.out | apply below_alloc | apply pw_below_drewN | apply below_drew1 | refine below_set ?_ (IsS77.ge HI0.out) | refine below_set ?_ GE287.out | refine below_set ?_ GE299.out) | exact HB.out)); rintro e w140 ⟨rfl, hi, hb, hk⟩; refine ⟨_, rfl, ?_⟩; replace HO_5 := Aside0.mk (Kd.R_mono (Kd.R_keep (IsS77.apart (show IsS77 w0 _ g s0_0 x1001_1 from sAIsS77_12) (rT_ HO_5) (by decide)) hk (fun _ h => h.2)) (fun _ h => h.1)); replace HO_300001 := Aside0.mk (Kd.R_mono (Kd.R_keep (IsS77.apart (show IsS77 w0 _ g s0_0 x1001_1 from sAIsS77_12) (rT_ HO_300001) (by decide)) hk (fun _ h => h.2)) (fun _ h => h.1)); replace HO_300002 := Aside0.mk (Kd.R_mono (Kd.R_keep (IsS77.apart (show IsS77 w0 _ g s0_0 x1001_1 from sAIsS77_12) (rT_ HO_300002) (by decide)) hk (fun _ h => h.2)) (fun _ h => h.1)); replace HO_300003 := Aside0.mk (Kd.N_mono (Kd.N_keep (Kd.N_mono (ok := fun k_ => (((w.heap.size ≤ k_)) ∧ (some k_ ≠ (u5 : Value).ownBlock ∧ (some k_ ≠ (.slice Ao9 t289.length co9 : Value).ownBlock ∧ (some k_ ≠ (.slice Ao10 t292.length co10 : Value).ownBlock ∧ (k_ ≠ gb287 ∧ (k_ ≠ gb299 ∧ k_ ≠ g))))))) (by (with_reducible repeat (first | apply Kd.N_alloc | apply Kd.N_drewN | apply Kd.N_drew)); exact HO_300003.out) (fun k_ hk_ => (⟨hk_, hk_.2.2.2.2.2.2⟩ : _ ∧ k_ ≠ g))) hk (fun _ h => h.2)) (fun _ h => h.1)); replace BK287 := Aside0.mk (KeepBut.blk hk (g' := gb287) (o := .cells #[.int .i64 0, .slice none 0 0, .slice none 0 0, .slice none 0 0] 30 (0, 0)) (bT_ BK287) NB287_0.out (by simp)); replace BK299 := Aside0.mk (KeepBut.blk hk (g' := gb299) (o := .cells #[.int .i64 t288, .slice Ao9 t289.length co9, .slice Ao10 t292.length co10, .slice Ao11 t295.length co11] 30 (0, 0)) (bT_ BK299) NB299_0.out (by simp)); replace HK := Aside0.mk (KeepBut.trans (w := w) (row := none) sAKeep_12 hk (.inl rfl)); replace HB := Aside0.mk (hb); replace HI0 := Aside0.mk (hi); (try clear hb); (try clear hk); (try clear hi)) | ((with_reducible refine gate_dst (N := 83) rfl ?_); refine Kd.R_lit (Kd.int .i64) _ 2 ?hg (N := 83) ?hd (xs := ([500, 501, 200000, 200001, (-500)] : List Int)) (inner := [.int .i64 500, .int .i64 501, .int .i64 200000, .int .i64 200001, .int .i64 (-500)]) (ok := fun _ => True) (okp := fun _ => True) ?hr ?hp (fun _ hk => hk) trivial (Below.refl _ _) (Nat.le_refl _) (by simp) ?_; (case hd => rfl); (case hg => rfl); (case hr => first | (go_simp; done) | (go_simp; rfl)); (case hp => exact (Reps.one (show Kd.M (Kd.int .i64) _ _ _ 500 [.int .i64 500] from rfl) (Reps.one (show Kd.M (Kd.int .i64) _ _ _ 501 [.int .i64 501] from rfl) (Reps.one (show Kd.M (Kd.int .i64) _ _ _ 200000 [.int .i64 200000] from rfl) (Reps.one (show Kd.M (Kd.int .i64) _ _ _ 200001 [.int .i64 200001] from rfl) (Reps.one (show Kd.M (Kd.int .i64) _ _ _ (-500) [.int .i64 (-500)] from rfl) (Reps.none _ _))))))); intro v346 w141 ho142 hb hg_ hnew_; clear hg_ hnew_; (first | rw [← Ny345.out] at ho142 | (simp only [Int.reduceToNat] at ho142; rw [← Ny345.out] at ho142)); replace HO_300003 := Aside0.mk (Kd.N_elder' (by (with_reducible repeat (first | apply Kd.N_alloc | apply Kd.N_drewN | apply Kd.N_drew)); exact HO_300003.out) (Kd.R_base ho142) hb); have HO347 := Aside0.mk (Kd.R_lower (Kd.R_new' (Kd.R_new' (Kd.R_new' (Kd.R_newM (M := fun k_ => (w.heap.size ≤ k_)) ho142 (keep_size (w := w) (g := g) (row := none) sAKeep_12) (fun k_ h_ => h_)) (rLt_ HO_5)) (rLt_ HO_300001)) (rLt_ HO_300002)) (keep_size (w := w) (g := g) (row := none) sAKeep_12)); replace HO_5 := rE_ HO_5 ho142 hb; replace HO_300001 := rE_ HO_300001 ho142 hb; replace HO_300002 := rE_ HO_300002 ho142 hb; replace BK287 := bB_ BK287 hb; replace BK299 := bB_ BK299 hb; replace HK := Aside0.mk (KeepBut.trans (w := w) (row := none) sAKeep_12 (KeepBut.of_below hb g none) (.inl rfl)); replace HB := Aside0.mk (below_step sABelo_12 hb); replace HI0 := Aside0.mk (IsS77.below sAIsS77_12 hb); clear hb ho142) | ((with_reducible refine gate_callee (f := 45) rfl ?_); refine gL_ (some 85) Try.func45 #[.pointer (some ⟨g, 0, none⟩), .int .i64 5] ?_; (with_reducible refine (spec_l1Rd_below.calls g s0_0 t309 5 t348 t349 w0 _ ?side1 ?side2 A132.out).mono ?_); (case side1 => repeat (first | (with_reducible first | exact HI0.out | apply IsS77.alloc | apply IsS77.drewN | apply IsS77.drew | apply IsS77.set_1 | refine IsS77.far ?_ NB0_287.out _ | refine IsS77.far ?_ NB0_299.out _) | exact HI0.out)); (case side2 => repeat (first | (with_reducible first | exact HB.out | apply below_alloc | apply pw_below_drewN | apply below_drew1 | refine below_set ?_ (IsS77.ge HI0.out) | refine below_set ?_ GE287.out | refine below_set ?_ GE299.out) | exact HB.out)); rintro e w143 ⟨rfl, hi, hb, hk⟩; refine ⟨_, rfl, ?_⟩; replace HO_5 := Aside0.mk (Kd.R_mono (Kd.R_keep (IsS77.apart (show IsS77 w0 _ g s0_0 t309 from sAIsS77_12) (rT_ HO_5) (by decide)) hk (fun _ h => h.2)) (fun _ h => h.1)); replace HO_300001 := Aside0.mk (Kd.R_mono (Kd.R_keep (IsS77.apart (show IsS77 w0 _ g s0_0 t309 from sAIsS77_12) (rT_ HO_300001) (by decide)) hk (fun _ h => h.2)) (fun _ h => h.1)); replace HO_300002 := Aside0.mk (Kd.R_mono (Kd.R_keep (IsS77.apart (show IsS77 w0 _ g s0_0 t309 from sAIsS77_12) (rT_ HO_300002) (by decide)) hk (fun _ h => h.2)) (fun _ h => h.1)); replace HO_300003 := Aside0.mk (Kd.N_mono (Kd.N_keep (Kd.N_mono (ok := fun k_ => ((((w.heap.size ≤ k_)) ∧ (some k_ ≠ (u5 : Value).ownBlock ∧ (some k_ ≠ (.slice Ao9 t289.length co9 : Value).ownBlock ∧ (some k_ ≠ (.slice Ao10 t292.length co10 : Value).ownBlock ∧ (k_ ≠ gb287 ∧ (k_ ≠ gb299 ∧ k_ ≠ g)))))) ∧ some k_ ≠ (v346 : Value).ownBlock)) (by (with_reducible repeat (first | apply Kd.N_alloc | apply Kd.N_drewN | apply Kd.N_drew)); exact HO_300003.out) (fun k_ hk_ => (⟨hk_, hk_.1.2.2.2.2.2.2⟩ : _ ∧ k_ ≠ g))) hk (fun _ h => h.2)) (fun _ h => h.1)); replace BK287 := Aside0.mk (KeepBut.blk hk (g' := gb287) (o := .cells #[.int .i64 0, .slice none 0 0, .slice none 0 0, .slice none 0 0] 30 (0, 0)) (bT_ BK287) NB287_0.out (by simp)); replace BK299 := Aside0.mk (KeepBut.blk hk (g' := gb299) (o := .cells #[.int .i64 t288, .slice Ao9 t289.length co9, .slice Ao10 t292.length co10, .slice Ao11 t295.length co11] 30 (0, 0)) (bT_ BK299) NB299_0.out (by simp)); replace HO347 := Aside0.mk (Kd.R_mono (Kd.R_keep (IsS77.apart (show IsS77 w0 _ g s0_0 t309 from sAIsS77_12) (rT_ HO347) (by decide)) hk (fun _ h => h.2)) (fun _ h => h.1)); replace HK := Aside0.mk (KeepBut.trans (w := w) (row := none) sAKeep_12 hk (.inl rfl)); replace HB := Aside0.mk (hb); replace HI0 := Aside0.mk (hi); (try clear hb); (try clear hk); (try clear hi); obtain ⟨Ao144, co144, eo144⟩ := Kd.R_slice HO347.out; subst eo144; have p350 : 0 ≤ (t348 : Int) := dA_; have q350 : t348 < (y345.length : Int) := dA_; obtain ⟨ad350, e350, hx350_0⟩ := Kd.at_int (Kd.R_reads' HO347.out).2.2 t348 p350 q350; cases e350; replace p350 := eq_true p350; replace q350 := eq_true q350; have p136 : 0 ≤ (0 : Int) := (by omega); have q136 : (0 : Int) < ((x5_1.length : Int) : Int) := dA_; have qi136 : (0 < x5_1.length) = True := eq_true (by omega); obtain ⟨go136, co136, eo136, gb136, gl136, cl136, HG136⟩ := Kd.R_form HO_5.out (by omega); (first | cases eo136 | (injection eo136 with ea_ en_ ec_; (first | subst ea_ | (injection ea_ with ea_; subst ea_)); subst ec_; clear en_)); have GB136 := Aside0.mk gb136; have GL136 := Aside0.mk (Nat.le_trans HL.out GB136.out); have GG136 := Aside0.mk HG136; clear gb136 gl136 HG136; obtain ⟨hx136_0, hf136_0⟩ := Kd.R_celln 0 HO_5.out (0 : Int) p136 q136; (try rw [show ((0 : Int)).toNat = 0 from rfl] at hx136_0); (try simp only [Nat.reduceMul, Nat.zero_mul, Nat.zero_add, Nat.reduceAdd] at hx136_0); (try rw [show ((0 : Int)).toNat = 0 from rfl] at hf136_0); (try simp only [Nat.reduceMul, Nat.zero_mul, Nat.zero_add, Nat.reduceAdd] at hf136_0); replace p136 := eq_true p136; replace q136 := eq_true q136; have n_ := Aside0.mk (Kd.R_mono (ok' := (fun k_ => (w.heap.size ≤ k_) ∧ some k_ ≠ (.slice Ao9 t289.length co9 : Value).ownBlock ∧ some k_ ≠ (.slice Ao10 t292.length co10 : Value).ownBlock ∧ some k_ ≠ (.slice (some ad350) y345.length co144 : Value).ownBlock)) HO_5.out (fun k_ hk => ⟨hk.1.1, ⟨hk.1.2.1, ⟨hk.1.2.2, hk.2⟩⟩⟩)); clear HO_5; have HO_5 := n_; clear n_; obtain ⟨hy145_, hz145_⟩ := Kd.R_celln 0 HO_5.out (0 : Int) (by omega) dA_; (try simp only [Int.reduceToNat, Int.toNat_zero, Int.toNat_ofNat, Nat.reduceMul, Nat.zero_mul, Nat.zero_add] at hy145_ hz145_); (try rw [show ((0 : Int)).toNat = 0 from rfl] at hy145_); (try rw [show ((0 : Int)).toNat = 0 from rfl] at hz145_); have HP145 := Kd.R_putg HO_5.out (0 : Int) (rd y345 t348)) | ((with_reducible refine gate_store (t := 2) (p := 88) rfl ?_); refine store_event (t := 2) (p := 88) (v := ?vo_w146) (w1 := (w143.setCell ⟨go136, (0 : Int).toNat, none⟩ (.int .i64 (rd y345 t348)))) ?hg ?ho ?hn ?hr ?_; (case ho => rfl); (case hg => rfl); (case hn => rfl); (case hr => first | (go_simp; done) | (go_simp; rfl)); intro w146 hw; have hg : w143.grownBy w146 (some go136) := (by rw [hw]; exact HP145.2); have hp_ : Kd.R (Kd.int .i64) 2 w146 w.heap.size (fun k_ => (w.heap.size ≤ k_) ∧ some k_ ≠ (.slice Ao9 t289.length co9 : Value).ownBlock ∧ some k_ ≠ (.slice Ao10 t292.length co10 : Value).ownBlock ∧ some k_ ≠ (.slice (some ad350) y345.length co144 : Value).ownBlock) (.slice (some ⟨go136, 0, none⟩) x5_1.length co136) y351 := (by rw [hw, Ny351.out]; exact HP145.1); clear HP145; replace HO_300001 := Aside0.mk (Kd.R_after (v := (.slice (some ⟨go136, 0, none⟩) x5_1.length co136)) (v1 := (.slice (some ⟨go136, 0, none⟩) x5_1.length co136)) (ok := (fun k_ => (w.heap.size ≤ k_) ∧ some k_ ≠ (.slice Ao10 t292.length co10 : Value).ownBlock ∧ some k_ ≠ (.slice (some ad350) y345.length co144 : Value).ownBlock)) (rM_ HO_300001) hg (.inl rfl)); replace HO_300002 := Aside0.mk (Kd.R_after (v := (.slice (some ⟨go136, 0, none⟩) x5_1.length co136)) (v1 := (.slice (some ⟨go136, 0, none⟩) x5_1.length co136)) (ok := (fun k_ => (w.heap.size ≤ k_) ∧ some k_ ≠ (.slice Ao9 t289.length co9 : Value).ownBlock ∧ some k_ ≠ (.slice (some ad350) y345.length co144 : Value).ownBlock)) (rM_ HO_300002) hg (.inl rfl)); replace HO_300003 := Aside0.mk (Kd.N_afterv (v := (.slice (some ⟨go136, 0, none⟩) x5_1.length co136)) (v1 := (.slice (some ⟨go136, 0, none⟩) x5_1.length co136)) (ok := (fun k_ => (w.heap.size ≤ k_) ∧ some k_ ≠ (.slice Ao9 t289.length co9 : Value).ownBlock ∧ some k_ ≠ (.slice Ao10 t292.length co10 : Value).ownBlock ∧ some k_ ≠ (.slice (some ad350) y345.length co144 : Value).ownBlock ∧ k_ ≠ gb287 ∧ k_ ≠ gb299 ∧ k_ ≠ g)) (by (with_reducible repeat (first | apply Kd.N_alloc | apply Kd.N_drewN | apply Kd.N_drew)); exact Kd.N_mono HO_300003.out (fun _ hk => ⟨⟨hk.1.1, ⟨hk.1.2.2.1, ⟨hk.1.2.2.2.1, ⟨hk.2, ⟨hk.1.2.2.2.2.1, ⟨hk.1.2.2.2.2.2.1, hk.1.2.2.2.2.2.2⟩⟩⟩⟩⟩⟩, hk.1.2.1⟩)) hg (.inl rfl)); replace BK287 := Aside0.mk (blk_grown (g := gb287) (o := .cells #[.int .i64 0, .slice none 0 0, .slice none 0 0, .slice none 0 0] 30 (0, 0)) (bT_ BK287) hg (Kd.R_ne HO_5.out BK287.out (by decide))); replace BK299 := Aside0.mk (blk_grown (g := gb299) (o := .cells #[.int .i64 t288, .slice Ao9 t289.length co9, .slice Ao10 t292.length co10, .slice Ao11 t295.length co11] 30 (0, 0)) (bT_ BK299) hg (Kd.R_ne HO_5.out BK299.out (by decide))); replace HI0 := Aside0.mk (IsS77.grown sAIsS77_12 hg (IsS77.own_ne HI0.out HO_5.out (by decide))); replace HO347 := Aside0.mk (Kd.R_after (v := (.slice (some ⟨go136, 0, none⟩) x5_1.length co136)) (v1 := (.slice (some ⟨go136, 0, none⟩) x5_1.length co136)) (ok := (fun k_ => (w.heap.size ≤ k_) ∧ some k_ ≠ (.slice Ao9 t289.length co9 : Value).ownBlock ∧ some k_ ≠ (.slice Ao10 t292.length co10 : Value).ownBlock)) (rM_ HO347) hg (.inl rfl)); replace HB := Aside0.mk ((by rw [hw]; exact below_set (HB.out) (Nat.le_trans HL.out GB136.out) : Below w0.heap.size w0 w146)); replace HK := Aside0.mk (KeepBut.trans (w := w) (row := none) sAKeep_12 (KeepBut.of_grown hg g) (Kd.R_base2 HO_5.out)); replace HO_5 := Aside0.mk (hp_); clear hg hw hp_; obtain ⟨hcz147_0, hcz147_1, hcz147_2, hcz147_3, hfz147_0, hfz147_1, hfz147_2, hfz147_3⟩ := cf4_ BK299; have hnb148 := NB287_0.out; have hnc148 := NB0_287.out; obtain ⟨hcz149_0, hcz149_1, hcz149_2, hcz149_3, hfz149_0, hfz149_1, hfz149_2, hfz149_3⟩ := cf4_ BK287))
          refine bodyPost_ret (results_ct rfl _ _ gb287 30 #[.int .i64 t288, .slice Ao9 t289.length co9, .slice Ao10 t292.length co10, .slice Ao11 t295.length co11] (0, 0) _ rfl (bP_ BK287) Try.underlying30 rfl (by kernel_rfl)) rfl ?_
          exact ⟨_, _, _, _, by first | rfl | (simp [errW_none, errW_some] <;> rfl) | (simp [*, errW_none, errW_some] <;> rfl), by (with_reducible repeat (first | apply Kd.R_alloc | apply Kd.R_drewN | apply Kd.R_drew)); exact Kd.R_mono (Kd.R_far (p := ⟨gb287, 3, none⟩) (Kd.R_far (p := ⟨gb287, 2, none⟩) (Kd.R_far (p := ⟨gb287, 1, none⟩) (Kd.R_far (p := ⟨gb287, 0, none⟩) (Kd.R_types HO_300001.out BK287.out (by decide)) (fun _ hk => hk.2) (.int .i64 t288)) (fun _ hk => hk.2) (.slice Ao9 t289.length co9)) (fun _ hk => hk.2) (.slice Ao10 t292.length co10)) (fun _ hk => hk.2) (.slice Ao11 t295.length co11)) (fun _ hk => ⟨hk.1.1.1, ⟨hk.1.1.2.1, hk.1.2⟩⟩), by (with_reducible repeat (first | apply Kd.R_alloc | apply Kd.R_drewN | apply Kd.R_drew)); exact Kd.R_mono (Kd.R_far (p := ⟨gb287, 3, none⟩) (Kd.R_far (p := ⟨gb287, 2, none⟩) (Kd.R_far (p := ⟨gb287, 1, none⟩) (Kd.R_far (p := ⟨gb287, 0, none⟩) (Kd.R_types HO_300002.out BK287.out (by decide)) (fun _ hk => hk.2) (.int .i64 t288)) (fun _ hk => hk.2) (.slice Ao9 t289.length co9)) (fun _ hk => hk.2) (.slice Ao10 t292.length co10)) (fun _ hk => hk.2) (.slice Ao11 t295.length co11)) (fun _ hk => ⟨hk.1.1.1, ⟨hk.1.1.2.1, hk.1.2⟩⟩), by (with_reducible repeat (first | apply Kd.N_alloc | apply Kd.N_drewN | apply Kd.N_drew)); exact Kd.N_mono (Kd.N_far (p := ⟨gb287, 3, none⟩) (Kd.N_far (p := ⟨gb287, 2, none⟩) (Kd.N_far (p := ⟨gb287, 1, none⟩) (Kd.N_far (p := ⟨gb287, 0, none⟩) (Kd.N_mono HO_300003.out (fun k_ hk => (⟨hk, hk.1.2.2.2.2.1⟩ : _ ∧ k_ ≠ gb287))) (fun _ hk => hk.2) (.int .i64 t288)) (fun _ hk => hk.2) (.slice Ao9 t289.length co9)) (fun _ hk => hk.2) (.slice Ao10 t292.length co10)) (fun _ hk => hk.2) (.slice Ao11 t295.length co11)) (fun _ hk => ⟨hk.1.1.1, ⟨hk.1.1.2.1, ⟨hk.1.1.2.2.1, hk.1.2⟩⟩⟩), by (with_reducible repeat (first | apply Kd.R_alloc | apply Kd.R_drewN | apply Kd.R_drew)); exact Kd.R_mono (Kd.R_far (p := ⟨gb287, 3, none⟩) (Kd.R_far (p := ⟨gb287, 2, none⟩) (Kd.R_far (p := ⟨gb287, 1, none⟩) (Kd.R_far (p := ⟨gb287, 0, none⟩) (Kd.R_types HO_5.out BK287.out (by decide)) (fun _ hk => hk.2) (.int .i64 t288)) (fun _ hk => hk.2) (.slice Ao9 t289.length co9)) (fun _ hk => hk.2) (.slice Ao10 t292.length co10)) (fun _ hk => hk.2) (.slice Ao11 t295.length co11)) (fun _ hk => ⟨hk.1.1, ⟨hk.1.2.1, hk.1.2.2.1⟩⟩), sAIsS77_12, sABelo_12, sAKeep_12⟩
         ·rw [if_neg c131] at H
          have c131b0 := beq_eq_false_iff_ne.mpr c131
          have c131b1 := bne_iff_ne.mpr c131
          by_cases c150 : t308 = 6
          ·rw [if_pos c150] at H
           have c150b0 := beq_iff_eq.mpr c150
           have c150b1 := bne_eq_false_iff_eq.mpr c150
           clear c150
           obtain ⟨c151, H⟩ := ifS_ H
           have LMc151 := Aside0.mk c151; clear c151
           obtain ⟨y352, hy352⟩ : ∃ y_ : List Int, y_ = (x5_1 ++ [0]) := ⟨_, rfl⟩
           replace H : (some (t288, t289, t292, t295, y352, t309)) = some (r1, r2, r3, r4, r5, r6) := by first | (rw [hy352]; with_reducible exact H) | (have H2_ := (Option.bind_some _ _).symm.trans H; rw [hy352]; with_reducible exact H2_) | (have H2_ := (Option.bind_some _ _).symm.trans H; with_reducible exact H2_) | with_reducible exact H | (rw [hy352]; exact H) | exact H
           have Ny352 := Aside0.mk hy352; clear hy352
           simp only [Option.some.injEq, Prod.mk.injEq] at H
           obtain ⟨rfl, rfl, rfl, rfl, rfl, rfl⟩ := H
           have hnb152 := NB299_287.out; have hnc152 := NB287_299.out; have hnb153 := NB299_0.out; have hnc153 := NB0_299.out
           obtain ⟨hcz154_0, hcz154_1, hcz154_2, hcz154_3, hfz154_0, hfz154_1, hfz154_2, hfz154_3⟩ := cf4_ BK299
           go_wp2_with (first | ((with_reducible refine gate_callee (f := 45) rfl ?_); refine gL_ (some 24) Try.func45 #[.pointer (some ⟨g, 0, none⟩), .int .i64 30] ?_; (with_reducible refine (spec_l1Rd_below.calls g s0_0 x1001_1 30 t308 t309 w0 _ ?side1 ?side2 A22.out).mono ?_); (case side1 => repeat (first | (with_reducible first | exact HI0.out | apply IsS77.alloc | apply IsS77.drewN | apply IsS77.drew | apply IsS77.set_1 | refine IsS77.far ?_ NB0_287.out _ | refine IsS77.far ?_ NB0_299.out _) | exact HI0.out)); (case side2 => repeat (first | (with_reducible first | exact HB.out | apply below_alloc | apply pw_below_drewN | apply below_drew1 | refine below_set ?_ (IsS77.ge HI0.out) | refine below_set ?_ GE287.out | refine below_set ?_ GE299.out) | exact HB.out)); rintro e w155 ⟨rfl, hi, hb, hk⟩; refine ⟨_, rfl, ?_⟩; replace HO_5 := Aside0.mk (Kd.R_mono (Kd.R_keep (IsS77.apart (show IsS77 w0 _ g s0_0 x1001_1 from sAIsS77_12) (rT_ HO_5) (by decide)) hk (fun _ h => h.2)) (fun _ h => h.1)); replace HO_300001 := Aside0.mk (Kd.R_mono (Kd.R_keep (IsS77.apart (show IsS77 w0 _ g s0_0 x1001_1 from sAIsS77_12) (rT_ HO_300001) (by decide)) hk (fun _ h => h.2)) (fun _ h => h.1)); replace HO_300002 := Aside0.mk (Kd.R_mono (Kd.R_keep (IsS77.apart (show IsS77 w0 _ g s0_0 x1001_1 from sAIsS77_12) (rT_ HO_300002) (by decide)) hk (fun _ h => h.2)) (fun _ h => h.1)); replace HO_300003 := Aside0.mk (Kd.N_mono (Kd.N_keep (Kd.N_mono (ok := fun k_ => (((w.heap.size ≤ k_)) ∧ (some k_ ≠ (u5 : Value).ownBlock ∧ (some k_ ≠ (.slice Ao9 t289.length co9 : Value).ownBlock ∧ (some k_ ≠ (.slice Ao10 t292.length co10 : Value).ownBlock ∧ (k_ ≠ gb287 ∧ (k_ ≠ gb299 ∧ k_ ≠ g))))))) (by (with_reducible repeat (first | apply Kd.N_alloc | apply Kd.N_drewN | apply Kd.N_drew)); exact HO_300003.out) (fun k_ hk_ => (⟨hk_, hk_.2.2.2.2.2.2⟩ : _ ∧ k_ ≠ g))) hk (fun _ h => h.2)) (fun _ h => h.1)); replace BK287 := Aside0.mk (KeepBut.blk hk (g' := gb287) (o := .cells #[.int .i64 0, .slice none 0 0, .slice none 0 0, .slice none 0 0] 30 (0, 0)) (bT_ BK287) NB287_0.out (by simp)); replace BK299 := Aside0.mk (KeepBut.blk hk (g' := gb299) (o := .cells #[.int .i64 t288, .slice Ao9 t289.length co9, .slice Ao10 t292.length co10, .slice Ao11 t295.length co11] 30 (0, 0)) (bT_ BK299) NB299_0.out (by simp)); replace HK := Aside0.mk (KeepBut.trans (w := w) (row := none) sAKeep_12 hk (.inl rfl)); replace HB := Aside0.mk (hb); replace HI0 := Aside0.mk (hi); (try clear hb); (try clear hk); (try clear hi)) | ((with_reducible refine gate_builtin (b := .append) (xs := #[.tmp 91, .tmp 92]) rfl ?_); at_builtin; refine Kd.R_append (Kd.int .i64) w.heap.size rfl (.tmp 91) (.tmp 92) 22 2 (.int .i64 0) 8 rfl Try.underlying22 info2 rfl (by decide) (by omega) u5 x5_1 0 [.int .i64 0] (fun k_ => (w.heap.size ≤ k_) ∧ some k_ ≠ (.slice Ao9 t289.length co9 : Value).ownBlock ∧ some k_ ≠ (.slice Ao10 t292.length co10 : Value).ownBlock) (fun _ => False) rfl rfl ?aP (fun _ hk => hk.elim) ?aF ?aO (Below.refl _ _) ?aS ?aL ?_; (case aP => exact rfl); (case aF => exact (fun k_ hk => ⟨(Nat.le_trans (keep_size (w := w) (g := g) (row := none) sAKeep_12) hk), Kd.fresh' (rLt_ HO_300001) k_ hk, Kd.fresh' (rLt_ HO_300002) k_ hk⟩)); (case aO => exact (rT_ HO_5)); (case aS => exact (keep_size (w := w) (g := g) (row := none) sAKeep_12)); (case aL => have := LMc151.out; omega); intro v353 w156 ho hb hg hat; rw [← Ny352.out] at ho; replace HO_300001 := Aside0.mk (Kd.R_after (ok := (fun k_ => (w.heap.size ≤ k_) ∧ some k_ ≠ (.slice Ao10 t292.length co10 : Value).ownBlock)) (rM_ HO_300001) hg hat); replace HO_300002 := Aside0.mk (Kd.R_after (ok := (fun k_ => (w.heap.size ≤ k_) ∧ some k_ ≠ (.slice Ao9 t289.length co9 : Value).ownBlock)) (rM_ HO_300002) hg hat); replace HO_300003 := Aside0.mk (Kd.N_afterv (ok := (fun k_ => (w.heap.size ≤ k_) ∧ some k_ ≠ (.slice Ao9 t289.length co9 : Value).ownBlock ∧ some k_ ≠ (.slice Ao10 t292.length co10 : Value).ownBlock ∧ k_ ≠ gb287 ∧ k_ ≠ gb299 ∧ k_ ≠ g)) (by (with_reducible repeat (first | apply Kd.N_alloc | apply Kd.N_drewN | apply Kd.N_drew)); exact Kd.N_mono HO_300003.out (fun _ hk => ⟨⟨hk.1, ⟨hk.2.2.1, ⟨hk.2.2.2.1, ⟨hk.2.2.2.2.1, ⟨hk.2.2.2.2.2.1, hk.2.2.2.2.2.2⟩⟩⟩⟩⟩, hk.2.1⟩)) hg hat); replace BK287 := Aside0.mk (blk_grown (g := gb287) (o := .cells #[.int .i64 0, .slice none 0 0, .slice none 0 0, .slice none 0 0] 30 (0, 0)) (bT_ BK287) hg (Kd.R_ne HO_5.out BK287.out (by decide))); replace BK299 := Aside0.mk (blk_grown (g := gb299) (o := .cells #[.int .i64 t288, .slice Ao9 t289.length co9, .slice Ao10 t292.length co10, .slice Ao11 t295.length co11] 30 (0, 0)) (bT_ BK299) hg (Kd.R_ne HO_5.out BK299.out (by decide))); replace HB := Aside0.mk (below_weaken sABelo_12 HL.out hb); replace HI0 := Aside0.mk (IsS77.grown sAIsS77_12 hg (IsS77.own_ne HI0.out HO_5.out (by decide))); replace HK := Aside0.mk (KeepBut.trans (w := w) (row := none) sAKeep_12 (KeepBut.of_grown hg g) (Kd.R_base2 HO_5.out)); have HO354 := Aside0.mk (ho); clear HO_5; clear ho hb hg hat; obtain ⟨hcz157_0, hcz157_1, hcz157_2, hcz157_3, hfz157_0, hfz157_1, hfz157_2, hfz157_3⟩ := cf4_ BK299; have hnb158 := NB287_0.out; have hnc158 := NB0_287.out; obtain ⟨hcz159_0, hcz159_1, hcz159_2, hcz159_3, hfz159_0, hfz159_1, hfz159_2, hfz159_3⟩ := cf4_ BK287))
           refine bodyPost_ret (results_ct rfl _ _ gb287 30 #[.int .i64 t288, .slice Ao9 t289.length co9, .slice Ao10 t292.length co10, .slice Ao11 t295.length co11] (0, 0) _ rfl (bP_ BK287) Try.underlying30 rfl (by kernel_rfl)) rfl ?_
           exact ⟨_, _, _, _, by first | rfl | (simp [errW_none, errW_some] <;> rfl) | (simp [*, errW_none, errW_some] <;> rfl), by (with_reducible repeat (first | apply Kd.R_alloc | apply Kd.R_drewN | apply Kd.R_drew)); exact Kd.R_mono (Kd.R_far (p := ⟨gb287, 3, none⟩) (Kd.R_far (p := ⟨gb287, 2, none⟩) (Kd.R_far (p := ⟨gb287, 1, none⟩) (Kd.R_far (p := ⟨gb287, 0, none⟩) (Kd.R_types HO_300001.out BK287.out (by decide)) (fun _ hk => hk.2) (.int .i64 t288)) (fun _ hk => hk.2) (.slice Ao9 t289.length co9)) (fun _ hk => hk.2) (.slice Ao10 t292.length co10)) (fun _ hk => hk.2) (.slice Ao11 t295.length co11)) (fun _ hk => ⟨hk.1.1.1, ⟨hk.1.1.2, hk.1.2⟩⟩), by (with_reducible repeat (first | apply Kd.R_alloc | apply Kd.R_drewN | apply Kd.R_drew)); exact Kd.R_mono (Kd.R_far (p := ⟨gb287, 3, none⟩) (Kd.R_far (p := ⟨gb287, 2, none⟩) (Kd.R_far (p := ⟨gb287, 1, none⟩) (Kd.R_far (p := ⟨gb287, 0, none⟩) (Kd.R_types HO_300002.out BK287.out (by decide)) (fun _ hk => hk.2) (.int .i64 t288)) (fun _ hk => hk.2) (.slice Ao9 t289.length co9)) (fun _ hk => hk.2) (.slice Ao10 t292.length co10)) (fun _ hk => hk.2) (.slice Ao11 t295.length co11)) (fun _ hk => ⟨hk.1.1.1, ⟨hk.1.1.2, hk.1.2⟩⟩), by (with_reducible repeat (first | apply Kd.N_alloc | apply Kd.N_drewN | apply Kd.N_drew)); exact Kd.N_mono (Kd.N_far (p := ⟨gb287, 3, none⟩) (Kd.N_far (p := ⟨gb287, 2, none⟩) (Kd.N_far (p := ⟨gb287, 1, none⟩) (Kd.N_far (p := ⟨gb287, 0, none⟩) (Kd.N_mono HO_300003.out (fun k_ hk => (⟨hk, hk.1.2.2.2.1⟩ : _ ∧ k_ ≠ gb287))) (fun _ hk => hk.2) (.int .i64 t288)) (fun _ hk => hk.2) (.slice Ao9 t289.length co9)) (fun _ hk => hk.2) (.slice Ao10 t292.length co10)) (fun _ hk => hk.2) (.slice Ao11 t295.length co11)) (fun _ hk => ⟨hk.1.1.1, ⟨hk.1.1.2.1, ⟨hk.1.1.2.2.1, hk.1.2⟩⟩⟩), by (with_reducible repeat (first | apply Kd.R_alloc | apply Kd.R_drewN | apply Kd.R_drew)); exact Kd.R_mono (Kd.R_far (p := ⟨gb287, 3, none⟩) (Kd.R_far (p := ⟨gb287, 2, none⟩) (Kd.R_far (p := ⟨gb287, 1, none⟩) (Kd.R_far (p := ⟨gb287, 0, none⟩) (Kd.R_types HO354.out BK287.out (by decide)) (fun _ hk => hk.2) (.int .i64 t288)) (fun _ hk => hk.2) (.slice Ao9 t289.length co9)) (fun _ hk => hk.2) (.slice Ao10 t292.length co10)) (fun _ hk => hk.2) (.slice Ao11 t295.length co11)) (fun _ hk => ⟨hk.1.1, ⟨hk.1.2.1, hk.1.2.2⟩⟩), sAIsS77_12, sABelo_12, sAKeep_12⟩
          ·rw [if_neg c150] at H
           have c150b0 := beq_eq_false_iff_ne.mpr c150
           have c150b1 := bne_iff_ne.mpr c150
           by_cases c160 : t308 = 7
           ·rw [if_pos c160] at H
            have c160b0 := beq_iff_eq.mpr c160
            have c160b1 := bne_eq_false_iff_eq.mpr c160
            clear c160; replace H := Option.bind_eq_some_iff.mp H
            obtain ⟨⟨t355, t356⟩, A1610, H⟩ := H
            replace H : (spec_l15Draw.l1 k1 x5_1 (wrap64 (20 + t355)) s0_0 t356 t288 t289 t292 t295) = some (r1, r2, r3, r4, r5, r6) := H
            have A161 := Aside0.mk A1610; clear A1610; have H' := Aside0.mk H; clear H; have hnb162 := NB299_287.out; have hnc162 := NB287_299.out; have hnb163 := NB299_0.out; have hnc163 := NB0_299.out
            obtain ⟨hcz164_0, hcz164_1, hcz164_2, hcz164_3, hfz164_0, hfz164_1, hfz164_2, hfz164_3⟩ := cf4_ BK299
            go_wp2_with (first | ((with_reducible refine gate_callee (f := 45) rfl ?_); refine gL_ (some 24) Try.func45 #[.pointer (some ⟨g, 0, none⟩), .int .i64 30] ?_; (with_reducible refine (spec_l1Rd_below.calls g s0_0 x1001_1 30 t308 t309 w0 _ ?side1 ?side2 A22.out).mono ?_); (case side1 => repeat (first | (with_reducible first | exact HI0.out | apply IsS77.alloc | apply IsS77.drewN | apply IsS77.drew | apply IsS77.set_1 | refine IsS77.far ?_ NB0_287.out _ | refine IsS77.far ?_ NB0_299.out _) | exact HI0.out)); (case side2 => repeat (first | (with_reducible first | exact HB.out | apply below_alloc | apply pw_below_drewN | apply below_drew1 | refine below_set ?_ (IsS77.ge HI0.out) | refine below_set ?_ GE287.out | refine below_set ?_ GE299.out) | exact HB.out)); rintro e w165 ⟨rfl, hi, hb, hk⟩; refine ⟨_, rfl, ?_⟩; replace HO_5 := Aside0.mk (Kd.R_mono (Kd.R_keep (IsS77.apart (show IsS77 w0 _ g s0_0 x1001_1 from sAIsS77_12) (rT_ HO_5) (by decide)) hk (fun _ h => h.2)) (fun _ h => h.1)); replace HO_300001 := Aside0.mk (Kd.R_mono (Kd.R_keep (IsS77.apart (show IsS77 w0 _ g s0_0 x1001_1 from sAIsS77_12) (rT_ HO_300001) (by decide)) hk (fun _ h => h.2)) (fun _ h => h.1)); replace HO_300002 := Aside0.mk (Kd.R_mono (Kd.R_keep (IsS77.apart (show IsS77 w0 _ g s0_0 x1001_1 from sAIsS77_12) (rT_ HO_300002) (by decide)) hk (fun _ h => h.2)) (fun _ h => h.1)); replace HO_300003 := Aside0.mk (Kd.N_mono (Kd.N_keep (Kd.N_mono (ok := fun k_ => (((w.heap.size ≤ k_)) ∧ (some k_ ≠ (u5 : Value).ownBlock ∧ (some k_ ≠ (.slice Ao9 t289.length co9 : Value).ownBlock ∧ (some k_ ≠ (.slice Ao10 t292.length co10 : Value).ownBlock ∧ (k_ ≠ gb287 ∧ (k_ ≠ gb299 ∧ k_ ≠ g))))))) (by (with_reducible repeat (first | apply Kd.N_alloc | apply Kd.N_drewN | apply Kd.N_drew)); exact HO_300003.out) (fun k_ hk_ => (⟨hk_, hk_.2.2.2.2.2.2⟩ : _ ∧ k_ ≠ g))) hk (fun _ h => h.2)) (fun _ h => h.1)); replace BK287 := Aside0.mk (KeepBut.blk hk (g' := gb287) (o := .cells #[.int .i64 0, .slice none 0 0, .slice none 0 0, .slice none 0 0] 30 (0, 0)) (bT_ BK287) NB287_0.out (by simp)); replace BK299 := Aside0.mk (KeepBut.blk hk (g' := gb299) (o := .cells #[.int .i64 t288, .slice Ao9 t289.length co9, .slice Ao10 t292.length co10, .slice Ao11 t295.length co11] 30 (0, 0)) (bT_ BK299) NB299_0.out (by simp)); replace HK := Aside0.mk (KeepBut.trans (w := w) (row := none) sAKeep_12 hk (.inl rfl)); replace HB := Aside0.mk (hb); replace HI0 := Aside0.mk (hi); (try clear hb); (try clear hk); (try clear hi)) | ((with_reducible refine gate_callee (f := 45) rfl ?_); refine gL_ (some 97) Try.func45 #[.pointer (some ⟨g, 0, none⟩), .int .i64 2] ?_; (with_reducible refine (spec_l1Rd_below.calls g s0_0 t309 2 t355 t356 w0 _ ?side1 ?side2 A161.out).mono ?_); (case side1 => repeat (first | (with_reducible first | exact HI0.out | apply IsS77.alloc | apply IsS77.drewN | apply IsS77.drew | apply IsS77.set_1 | refine IsS77.far ?_ NB0_287.out _ | refine IsS77.far ?_ NB0_299.out _) | exact HI0.out)); (case side2 => repeat (first | (with_reducible first | exact HB.out | apply below_alloc | apply pw_below_drewN | apply below_drew1 | refine below_set ?_ (IsS77.ge HI0.out) | refine below_set ?_ GE287.out | refine below_set ?_ GE299.out) | exact HB.out)); rintro e w166 ⟨rfl, hi, hb, hk⟩; refine ⟨_, rfl, ?_⟩; replace HO_5 := Aside0.mk (Kd.R_mono (Kd.R_keep (IsS77.apart (show IsS77 w0 _ g s0_0 t309 from sAIsS77_12) (rT_ HO_5) (by decide)) hk (fun _ h => h.2)) (fun _ h => h.1)); replace HO_300001 := Aside0.mk (Kd.R_mono (Kd.R_keep (IsS77.apart (show IsS77 w0 _ g s0_0 t309 from sAIsS77_12) (rT_ HO_300001) (by decide)) hk (fun _ h => h.2)) (fun _ h => h.1)); replace HO_300002 := Aside0.mk (Kd.R_mono (Kd.R_keep (IsS77.apart (show IsS77 w0 _ g s0_0 t309 from sAIsS77_12) (rT_ HO_300002) (by decide)) hk (fun _ h => h.2)) (fun _ h => h.1)); replace HO_300003 := Aside0.mk (Kd.N_mono (Kd.N_keep (Kd.N_mono (ok := fun k_ => (((w.heap.size ≤ k_)) ∧ (some k_ ≠ (u5 : Value).ownBlock ∧ (some k_ ≠ (.slice Ao9 t289.length co9 : Value).ownBlock ∧ (some k_ ≠ (.slice Ao10 t292.length co10 : Value).ownBlock ∧ (k_ ≠ gb287 ∧ (k_ ≠ gb299 ∧ k_ ≠ g))))))) (by (with_reducible repeat (first | apply Kd.N_alloc | apply Kd.N_drewN | apply Kd.N_drew)); exact HO_300003.out) (fun k_ hk_ => (⟨hk_, hk_.2.2.2.2.2.2⟩ : _ ∧ k_ ≠ g))) hk (fun _ h => h.2)) (fun _ h => h.1)); replace BK287 := Aside0.mk (KeepBut.blk hk (g' := gb287) (o := .cells #[.int .i64 0, .slice none 0 0, .slice none 0 0, .slice none 0 0] 30 (0, 0)) (bT_ BK287) NB287_0.out (by simp)); replace BK299 := Aside0.mk (KeepBut.blk hk (g' := gb299) (o := .cells #[.int .i64 t288, .slice Ao9 t289.length co9, .slice Ao10 t292.length co10, .slice Ao11 t295.length co11] 30 (0, 0)) (bT_ BK299) NB299_0.out (by simp)); replace HK := Aside0.mk (KeepBut.trans (w := w) (row := none) sAKeep_12 hk (.inl rfl)); replace HB := Aside0.mk (hb); replace HI0 := Aside0.mk (hi); (try clear hb); (try clear hk); (try clear hi)))
            go_loopg [] k1 (fun kq w' => ∃ (x300003_2 : List (S52)) (u300003 : Value), Aside0 (spec_l15Draw.l1 kq x5_1 (wrap64 (20 + t355)) s0_0 t356 t288 t289 t292 x300003_2 = some (r1, r2, r3, r4, r5, r6)) ∧ Aside0 (kq ≤ k1) ∧ Aside0 (Kd.R (Kd.int .i64) 2 w' w.heap.size (fun k_ => (w.heap.size ≤ k_) ∧ some k_ ≠ ((.slice Ao9 t289.length co9) : Value).ownBlock ∧ some k_ ≠ ((.slice Ao10 t292.length co10) : Value).ownBlock) u5 x5_1) ∧ Aside0 (Kd.R (Kd.int .i64) 2 w' w.heap.size (fun k_ => (w.heap.size ≤ k_) ∧ some k_ ≠ (u5 : Value).ownBlock ∧ some k_ ≠ ((.slice Ao10 t292.length co10) : Value).ownBlock) (.slice Ao9 t289.length co9) t289) ∧ Aside0 (Kd.R (Kd.int .i64) 2 w' w.heap.size (fun k_ => (w.heap.size ≤ k_) ∧ some k_ ≠ (u5 : Value).ownBlock ∧ some k_ ≠ ((.slice Ao9 t289.length co9) : Value).ownBlock) (.slice Ao10 t292.length co10) t292) ∧ Aside0 (Kd.N k52 52 w' w.heap.size (fun k_ => (w.heap.size ≤ k_) ∧ some k_ ≠ (u5 : Value).ownBlock ∧ some k_ ≠ ((.slice Ao9 t289.length co9) : Value).ownBlock ∧ some k_ ≠ ((.slice Ao10 t292.length co10) : Value).ownBlock ∧ k_ ≠ gb287 ∧ k_ ≠ gb299 ∧ k_ ≠ g) u300003 x300003_2) ∧ Aside0 (w'.heap[gb287]? = some (.cells #[.int .i64 0, (.slice none 0 0), (.slice none 0 0), (.slice none 0 0)] 30 (0, 0))) ∧ Aside0 (w'.heap[gb299]? = some (.cells #[.int .i64 t288, (.slice Ao9 t289.length co9), (.slice Ao10 t292.length co10), u300003] 30 (0, 0))) ∧ Aside0 (IsS77 w0 w' g s0_0 t356) ∧ Aside0 (KeepBut w w' g none) ∧ Aside0 (Below w0.heap.size w0 w'))
            case atStart => exact ⟨(t295), (.slice Ao11 t295.length co11), H', ⟨Nat.le_refl _⟩, ⟨rT_ HO_5⟩, ⟨rT_ HO_300001⟩, ⟨rT_ HO_300002⟩, ⟨by (with_reducible repeat (first | apply Kd.N_alloc | apply Kd.N_drewN | apply Kd.N_drew)); exact HO_300003.out⟩, ⟨bT_ BK287⟩, ⟨bT_ BK299⟩, ⟨sAIsS77_12⟩, ⟨sAKeep_12⟩, ⟨sABelo_12⟩⟩
            case round =>
             clear H'; (try clear c14); (try clear c108); (try clear c108b0); (try clear c108b1); (try clear c131); (try clear c131b0); (try clear c131b1); (try clear c150); (try clear c150b0); (try clear c150b1); (try clear c160); (try clear c160b0); (try clear c160b1); (try clear hcz164_0); (try clear hcz164_1); (try clear hcz164_2); (try clear hcz164_3); (try clear hfz164_0); (try clear hfz164_1); (try clear hfz164_2); (try clear hfz164_3)
             obtain ⟨x300003_2, u300003, HA, HK2, HO_5, HO_300001, HO_300002, HO_300003, BK287, BK299, HI0, HK, HB⟩ := hrel
             cases gk with
             | zero => exact absurd HA.out (by simp [spec_l15Draw.l1])
             | succ k2 =>
              have H := HA.out; clear HA
              simp only [spec_l15Draw.l1] at H
              by_cases c167 : (x300003_2.length : Int) < (wrap64 (20 + t355))
              ·rw [if_pos c167] at H
               have c167b0 := decide_eq_true c167
               clear c167
               obtain ⟨c168, H⟩ := ifS_ H
               have c168b0 : decide (0 < (x300003_2.length : Int)) = true := decide_eq_true c168
               have c168b1 : decide (0 < x300003_2.length) = true := decide_eq_true (by omega)
               clear c168
               obtain ⟨c169, H⟩ := ifS_ H
               have LMc169 := Aside0.mk c169; clear c169
               obtain ⟨y358, hy358⟩ : ∃ y_ : List (S52), y_ = (x300003_2 ++ [(⟨(rd_T52 x300003_2 0).f0, (rd_T52 x300003_2 0).f1, (rd_T52 x300003_2 0).f2⟩ : S52)]) := ⟨_, rfl⟩
               replace H : (spec_l15Draw.l1 k2 x5_1 (wrap64 (20 + t355)) s0_0 t356 t288 t289 t292 y358) = some (r1, r2, r3, r4, r5, r6) := by first | (rw [hy358]; with_reducible exact H) | (have H2_ := (Option.bind_some _ _).symm.trans H; rw [hy358]; with_reducible exact H2_) | (have H2_ := (Option.bind_some _ _).symm.trans H; with_reducible exact H2_) | with_reducible exact H | (rw [hy358]; exact H) | exact H
               have Ny358 := Aside0.mk hy358; clear hy358; have H' := Aside0.mk H; clear H; have hnb170 := NB299_287.out; have hnc170 := NB287_299.out; have hnb171 := NB299_0.out; have hnc171 := NB0_299.out
               obtain ⟨hcz172_0, hcz172_1, hcz172_2, hcz172_3, hfz172_0, hfz172_1, hfz172_2, hfz172_3⟩ := cf4_ BK299
               obtain ⟨Ao173, co173, eo173⟩ := Kd.N_slice HO_300003.out
               subst eo173
               try go_wp2
               replace HO_5 := Aside0.mk (Kd.R_drew HO_5.out)
               replace HO_300001 := Aside0.mk (Kd.R_drew HO_300001.out)
               replace HO_300002 := Aside0.mk (Kd.R_drew HO_300002.out)
               replace HO_300003 := Aside0.mk (Kd.N_drew HO_300003.out)
               replace BK287 := Aside0.mk (blk_drew BK287.out)
               replace BK299 := Aside0.mk (blk_drew BK299.out)
               replace HI0 := Aside0.mk (IsS77.drew HI0.out)
               replace HK := Aside0.mk (keep_drew HK.out)
               replace HB := Aside0.mk (below_drew1 HB.out)
               have p357 : 0 ≤ (0 : Int) := (by omega)
               have q357 : 0 < (x300003_2.length : Int) := dA_
               obtain ⟨ad357, A357_0, c357_0, e357, hx357_0, hx357_1, hx357_2, hl357_0, hi357_0⟩ := at_T52 (Kd.N_reads' HO_300003.out).2.2 0 p357 q357
               cases e357
               obtain ⟨ce357, hce357, hMe357, hcc357⟩ := Kd.N_get HO_300003.out z52 0 p357 (by first | exact q357 | exact of_decide_eq_true (by first | (with_reducible assumption) | assumption) | (have e_ := (Kd.N_reads' HO_300003.out).1; omega))
               obtain ⟨ua357_0, uc357_0, rfl, ul357_0, ge357_0⟩ := k52_openF hMe357
               have hv357_0 := hcc357 0 _ rfl
               rw [Nat.add_zero] at hv357_0
               replace hv357_0 := Option.some.inj (hv357_0.symm.trans hx357_0)
               injection hv357_0 with hva_ hvn_ hvc_
               rw [hva_] at ge357_0
               rw [hvc_] at ul357_0
               have HL357_0 := Aside0.mk (show Kd.V (Kd.int .i64) 2 _ w.heap.size _ _ ((rd_T52 x300003_2 0).f0) from Kd.V_mk ul357_0 ge357_0)
               clear hva_ hvn_ hvc_ ge357_0 ul357_0 hcc357 hce357
               have qi357 : (0 < x300003_2.length) = True := eq_true (by omega)
               (try rw [show ((0 : Int)).toNat = 0 from rfl] at hx357_0)
               (try rw [show 0 * 3 = 0 from rfl] at hx357_0)
               (try rw [Addr.add_zero'] at hx357_0)
               (try rw [show ((0 : Int)).toNat = 0 from rfl] at hx357_1)
               (try rw [show 0 * 3 = 0 from rfl] at hx357_1)
               (try rw [Addr.add_zero'] at hx357_1)
               (try rw [show ((0 : Int)).toNat = 0 from rfl] at hx357_2)
               (try rw [show 0 * 3 = 0 from rfl] at hx357_2)
               (try rw [Addr.add_zero'] at hx357_2)
               have HR357_0 := Aside0.mk hi357_0; have HC357_0 := Aside0.mk hl357_0; clear hi357_0 hl357_0; replace p357 := eq_true p357; replace q357 := eq_true q357
               refine start_ (n := 10) (S := fun w' => w'.cell? ⟨gb299, 0, none⟩ = some (.int .i64 t288) ∧ w'.cell? ⟨gb299, 1, none⟩ = some (.slice Ao9 t289.length co9) ∧ w'.cell? ⟨gb299, 2, none⟩ = some (.slice Ao10 t292.length co10) ∧ w'.cell? ⟨gb299, 3, none⟩ = some (.slice (some ad357) x300003_2.length co173) ∧ w'.cell? ad357 = some (.slice A357_0 ((rd_T52 x300003_2 0).f0).length c357_0) ∧ w'.cell? ⟨ad357.block, ad357.off + 1, none⟩ = some (.int .i64 ((rd_T52 x300003_2 0).f1)) ∧ w'.cell? ⟨ad357.block, ad357.off + 2, none⟩ = some (.int .i64 ((rd_T52 x300003_2 0).f2))) (ds := [7, 9]) #[false, false, false, false, false, false, false, false, false, false] (by kernel_rfl) rfl rfl ⟨(blk_cell BK299.out 0).trans rfl, (blk_cell BK299.out 1).trans rfl, (blk_cell BK299.out 2).trans rfl, (blk_cell BK299.out 3).trans rfl, hx357_0, hx357_1, hx357_2⟩ (fun hHeld => ?_); refine with_tabW spec_l15Draw.tab25 spec_l15Draw.bits25 (fun HT_ HW_ => ?_)
               generalize wr.drew = w174 at HO_5 HO_300001 HO_300002 HO_300003 BK287 BK299 HI0 HK HB HL357_0 HR357_0 hx357_0 hx357_1 hx357_2 hHeld ⊢
               refine pT_ 0 (some 104) #[true, false, false, false, false, false, false, false, false, false] HT_ ?_
               refine pT_ 2 (some 106) #[true, false, true, false, false, false, false, false, false, false] HT_ ?_
               refine tT_ 1 (some 105) #[true, true, true, false, false, false, false, false, false, false] HT_ HW_ hHeld ?_ (hy := by rintro w' ⟨s0, s1, s2, s3, s4, s5, s6⟩; go_simp; with_reducible rfl)
               refine tT_ 3 (some 107) #[true, true, true, true, false, false, false, false, false, false] HT_ HW_ hHeld ?_ (hy := by rintro w' ⟨s0, s1, s2, s3, s4, s5, s6⟩; go_simp; with_reducible rfl)
               refine pT_ 4 (some 108) #[true, true, true, true, true, false, false, false, false, false] HT_ ?_
               refine tT_ 5 (some 109) #[true, true, true, true, true, true, false, false, false, false] HT_ HW_ hHeld ?_ (hy := by rintro w' ⟨s0, s1, s2, s3, s4, s5, s6⟩; go_simp; with_reducible rfl)
               refine one_ (i := 6) (N := some 110) #[true, true, true, true, true, true, true, false, false, false] rfl rfl (one_of HT_.out (by kernel_rfl)) (by decide) (fun K hK => ?_)
               refine value_ (w1 := ?_) (v := ?_) (by rfl) rfl ?_ ?_
               rotate_left 2
               ·go_simp
                constructor
                ·rfl
                ·rfl
               refine hK.out _ _ ⟨(blk_cell (blk_alloc BK299.out _) 0).trans rfl, (blk_cell (blk_alloc BK299.out _) 1).trans rfl, (blk_cell (blk_alloc BK299.out _) 2).trans rfl, (blk_cell (blk_alloc BK299.out _) 3).trans rfl, (World.cell?_alloc_lt _ _ _ (World.block_lt_of_cell? _ _ (hHeld.2.2.2.2.1))).trans (hHeld.2.2.2.2.1), (World.cell?_alloc_lt _ _ _ (World.block_lt_of_cell? _ _ (hHeld.2.2.2.2.2.1))).trans (hHeld.2.2.2.2.2.1), (World.cell?_alloc_lt _ _ _ (World.block_lt_of_cell? _ _ (hHeld.2.2.2.2.2.2))).trans (hHeld.2.2.2.2.2.2)⟩ (fun hHeld => ?_)
               clear hK K
               refine nS_ (some 110) ?_
               refine last_ (i := 7) (N := some 111) #[true, true, true, true, true, true, true, true, false, false] rfl rfl (one_of HT_.out (by kernel_rfl)) (by decide) (fun K hK => ?_)
               refine Kd.N_append_step k52 w.heap.size (by rfl) (.tmp 105) (.tmp 110) 28 52 (.agg #[(.slice none 0 0), (.int .i64 0), (.int .i64 0)]) 40 rfl Try.underlying28 info52 rfl (by decide) (by omega) (.slice (some ad357) x300003_2.length co173) x300003_2 (⟨(rd_T52 x300003_2 0).f0, (rd_T52 x300003_2 0).f1, (rd_T52 x300003_2 0).f2⟩ : S52) [.slice A357_0 ((rd_T52 x300003_2 0).f0).length c357_0, .int .i64 ((rd_T52 x300003_2 0).f1), .int .i64 ((rd_T52 x300003_2 0).f2)] (fun k_ => (w.heap.size ≤ k_) ∧ some k_ ≠ (u5 : Value).ownBlock ∧ some k_ ≠ (.slice Ao9 t289.length co9 : Value).ownBlock ∧ some k_ ≠ (.slice Ao10 t292.length co10 : Value).ownBlock ∧ k_ ≠ gb287 ∧ k_ ≠ gb299 ∧ k_ ≠ g) (fun k_ => ((fun k_ => (w.heap.size ≤ k_) ∧ some k_ ≠ (u5 : Value).ownBlock ∧ some k_ ≠ (.slice Ao9 t289.length co9 : Value).ownBlock ∧ some k_ ≠ (.slice Ao10 t292.length co10 : Value).ownBlock ∧ k_ ≠ gb287 ∧ k_ ≠ gb299 ∧ k_ ≠ g)) k_ ∧ some k_ ≠ (.slice (some ad357) x300003_2.length co173 : Value).ownBlock) rfl rfl ?aP (fun _ hk => hk) ?aF ?aO (Below.refl _ _) ?aS ?aL ?_
               (case aP => exact (k52_mkF _ _ (⟨(rd_T52 x300003_2 0).f0, (rd_T52 x300003_2 0).f1, (rd_T52 x300003_2 0).f2⟩ : S52) (Kd.V_reads' (Kd.V_mono (ok' := (fun k_ => ((fun k_ => (w.heap.size ≤ k_) ∧ some k_ ≠ (u5 : Value).ownBlock ∧ some k_ ≠ (.slice Ao9 t289.length co9 : Value).ownBlock ∧ some k_ ≠ (.slice Ao10 t292.length co10 : Value).ownBlock ∧ k_ ≠ gb287 ∧ k_ ≠ gb299 ∧ k_ ≠ g)) k_ ∧ some k_ ≠ (.slice (some ad357) x300003_2.length co173 : Value).ownBlock)) (HL357_0.out) (fun k_ hk => ⟨⟨hk.1.1, ⟨hk.1.2.1, ⟨hk.1.2.2.1, ⟨hk.1.2.2.2.1, ⟨hk.1.2.2.2.2.1, ⟨hk.1.2.2.2.2.2.1, hk.1.2.2.2.2.2.2⟩⟩⟩⟩⟩⟩, hk.2⟩))).2.1 (Kd.V_F (Kd.V_mono (ok' := (fun k_ => ((fun k_ => (w.heap.size ≤ k_) ∧ some k_ ≠ (u5 : Value).ownBlock ∧ some k_ ≠ (.slice Ao9 t289.length co9 : Value).ownBlock ∧ some k_ ≠ (.slice Ao10 t292.length co10 : Value).ownBlock ∧ k_ ≠ gb287 ∧ k_ ≠ gb299 ∧ k_ ≠ g)) k_ ∧ some k_ ≠ (.slice (some ad357) x300003_2.length co173 : Value).ownBlock)) (HL357_0.out) (fun k_ hk => ⟨⟨hk.1.1, ⟨hk.1.2.1, ⟨hk.1.2.2.1, ⟨hk.1.2.2.2.1, ⟨hk.1.2.2.2.2.1, ⟨hk.1.2.2.2.2.2.1, hk.1.2.2.2.2.2.2⟩⟩⟩⟩⟩⟩, hk.2⟩)))))
               (case aF => exact (fun k_ hk => ⟨(Nat.le_trans (keep_size (w := w) (g := g) (row := none) sAKeep_12) hk), Kd.fresh' (rLt_ HO_5) k_ hk, Kd.fresh' (rLt_ HO_300001) k_ hk, Kd.fresh' (rLt_ HO_300002) k_ hk, Kd.freshB (g := gb287) (o := .cells #[.int .i64 0, .slice none 0 0, .slice none 0 0, .slice none 0 0] 30 (0, 0)) (bT_ BK287) k_ hk, Kd.freshB (g := gb299) (o := .cells #[.int .i64 t288, .slice Ao9 t289.length co9, .slice Ao10 t292.length co10, .slice (some ad357) x300003_2.length co173] 30 (0, 0)) (bT_ BK299) k_ hk, IsS77.fresh sAIsS77_12 k_ hk⟩))
               (case aO => exact (by (with_reducible repeat (first | apply Kd.N_alloc | apply Kd.N_drewN | apply Kd.N_drew)); exact HO_300003.out))
               (case aS => exact (keep_size (w := w) (g := g) (row := none) sAKeep_12))
               (case aL => have := LMc169.out; omega)
               intro v359 w175 ho hb hg hat
               rw [← Ny358.out] at ho
               replace HO_5 := Aside0.mk (Kd.R_over' (rT_ HO_5) (Kd.N_typed (by (with_reducible repeat (first | apply Kd.N_alloc | apply Kd.N_drewN | apply Kd.N_drew)); exact HO_300003.out)) (by decide) hg)
               replace HO_300001 := Aside0.mk (Kd.R_over' (rT_ HO_300001) (Kd.N_typed (by (with_reducible repeat (first | apply Kd.N_alloc | apply Kd.N_drewN | apply Kd.N_drew)); exact HO_300003.out)) (by decide) hg)
               replace HO_300002 := Aside0.mk (Kd.R_over' (rT_ HO_300002) (Kd.N_typed (by (with_reducible repeat (first | apply Kd.N_alloc | apply Kd.N_drewN | apply Kd.N_drew)); exact HO_300003.out)) (by decide) hg)
               replace BK287 := Aside0.mk (blk_grown (g := gb287) (o := .cells #[.int .i64 0, .slice none 0 0, .slice none 0 0, .slice none 0 0] 30 (0, 0)) (bT_ BK287) hg (Kd.N_ne HO_300003.out BK287.out (by decide)))
               replace BK299 := Aside0.mk (blk_grown (g := gb299) (o := .cells #[.int .i64 t288, .slice Ao9 t289.length co9, .slice Ao10 t292.length co10, .slice (some ad357) x300003_2.length co173] 30 (0, 0)) (bT_ BK299) hg (Kd.N_ne HO_300003.out BK299.out (by decide)))
               replace HL357_0 := Aside0.mk (Kd.V_afterv (ok := (fun k_ => (w.heap.size ≤ k_) ∧ some k_ ≠ (u5 : Value).ownBlock ∧ some k_ ≠ (.slice Ao9 t289.length co9 : Value).ownBlock ∧ some k_ ≠ (.slice Ao10 t292.length co10 : Value).ownBlock ∧ k_ ≠ gb287 ∧ k_ ≠ gb299 ∧ k_ ≠ g)) (by (with_reducible repeat (first | apply Kd.V_alloc | apply Kd.V_drewN | apply Kd.V_drew)); exact HL357_0.out) hg hat)
               replace HB := Aside0.mk (below_weaken sABelo_12 HL.out hb)
               replace HI0 := Aside0.mk (IsS77.grown sAIsS77_12 hg (IsS77.own_neN HI0.out HO_300003.out (by decide)))
               replace HK := Aside0.mk (KeepBut.trans (w := w) (row := none) sAKeep_12 (KeepBut.of_grown hg g) (Kd.N_base2 HO_300003.out))
               have HO360 := Aside0.mk (ho)
               clear HO_300003 ho hb hg hat
               obtain ⟨Ao176, co176, eo176⟩ := Kd.N_slice HO360.out
               (first | subst eo176 | (injection eo176 with f1_ f2_ f3_; have f4_ := f1_.symm; have f5_ := f3_.symm; clear f1_ f2_ f3_; subst f4_; subst f5_))
               refine hK.out _ _ ?_
               clear hK K
               refine nS_ (some 111) ?_
               refine pT_ 8 (some 112) #[true, true, true, true, true, true, true, true, true, false] HT_ ?_
               refine last_ (i := 9) (N := none) #[true, true, true, true, true, true, true, true, true, true] rfl rfl (one_of HT_.out (by kernel_rfl)) (by decide) (fun K hK => ?_)
               have hs177 : w175.cell? ⟨gb299, 3, none⟩ = some (.slice (some ad357) x300003_2.length co173) := (blk_cell BK299.out 3).trans rfl
               have hfs177 := blk_frozen BK299.out 3; have hns177_0 := NB287_299.out; have hms177_0 := NB299_287.out
               refine skip_ (w1 := ?_) (by rfl) rfl ?_ ?_
               rotate_left
               ·go_simp
                rfl
               refine hK.out _ _ ?_
               clear hK K
               refine done_ (done_of HT_.out (by kernel_rfl)) ?_
               try go_wp2
               go_roundg k2
               case measure => have := HK1.out; have := HK2.out; omega
               case rel => exact ⟨(y358), (.slice Ao176 y358.length co176), H', ⟨by have := HK1.out; have := HK2.out; omega⟩, ⟨rFM_ HO_5 BK299⟩, ⟨rFM_ HO_300001 BK299⟩, ⟨rFM_ HO_300002 BK299⟩, ⟨by (with_reducible repeat (first | apply Kd.N_alloc | apply Kd.N_drewN | apply Kd.N_drew)); exact Kd.N_mono (Kd.N_far (p := ⟨gb299, 3, none⟩) (Kd.N_mono HO360.out (fun k_ hk => (⟨hk, hk.2.2.2.2.2.1⟩ : _ ∧ k_ ≠ gb299))) (fun _ hk => hk.2) (.slice Ao176 y358.length co176)) (fun _ hk => ⟨hk.1.1, ⟨hk.1.2.1, ⟨hk.1.2.2.1, ⟨hk.1.2.2.2.1, ⟨hk.1.2.2.2.2.1, ⟨hk.1.2.2.2.2.2.1, hk.1.2.2.2.2.2.2⟩⟩⟩⟩⟩⟩)⟩, ⟨bF_ BK287 NB287_299⟩, ⟨bP_ BK299⟩, ⟨sAIsS77_12⟩, ⟨sAKeep_12⟩, ⟨sABelo_12⟩⟩
              ·rw [if_neg c167] at H
               have c167b0 := decide_eq_false c167
               clear c167
               simp only [Option.some.injEq, Prod.mk.injEq] at H
               obtain ⟨rfl, rfl, rfl, rfl, rfl, rfl⟩ := H
               have hnb178 := NB299_287.out; have hnc178 := NB287_299.out; have hnb179 := NB299_0.out; have hnc179 := NB0_299.out
               obtain ⟨hcz180_0, hcz180_1, hcz180_2, hcz180_3, hfz180_0, hfz180_1, hfz180_2, hfz180_3⟩ := cf4_ BK299
               obtain ⟨Ao181, co181, eo181⟩ := Kd.N_slice HO_300003.out
               subst eo181
               have hnb182 := NB287_0.out; have hnc182 := NB0_287.out
               obtain ⟨hcz183_0, hcz183_1, hcz183_2, hcz183_3, hfz183_0, hfz183_1, hfz183_2, hfz183_3⟩ := cf4_ BK287
               go_wp2
               refine bodyPost_ret (results_ct rfl _ _ gb287 30 #[.int .i64 t288, .slice Ao9 t289.length co9, .slice Ao10 t292.length co10, .slice Ao181 x300003_2.length co181] (0, 0) _ rfl (bP_ BK287) Try.underlying30 rfl (by kernel_rfl)) rfl ?_
               exact ⟨_, _, _, _, by first | rfl | (simp [errW_none, errW_some] <;> rfl) | (simp [*, errW_none, errW_some] <;> rfl), by (with_reducible repeat (first | apply Kd.R_alloc | apply Kd.R_drewN | apply Kd.R_drew)); exact Kd.R_mono (Kd.R_far (p := ⟨gb287, 3, none⟩) (Kd.R_far (p := ⟨gb287, 2, none⟩) (Kd.R_far (p := ⟨gb287, 1, none⟩) (Kd.R_far (p := ⟨gb287, 0, none⟩) (Kd.R_types HO_300001.out BK287.out (by decide)) (fun _ hk => hk.2) (.int .i64 t288)) (fun _ hk => hk.2) (.slice Ao9 t289.length co9)) (fun _ hk => hk.2) (.slice Ao10 t292.length co10)) (fun _ hk => hk.2) (.slice Ao181 x300003_2.length co181)) (fun _ hk => ⟨hk.1.1, ⟨hk.1.2.2, hk.1.2.1⟩⟩), by (with_reducible repeat (first | apply Kd.R_alloc | apply Kd.R_drewN | apply Kd.R_drew)); exact Kd.R_mono (Kd.R_far (p := ⟨gb287, 3, none⟩) (Kd.R_far (p := ⟨gb287, 2, none⟩) (Kd.R_far (p := ⟨gb287, 1, none⟩) (Kd.R_far (p := ⟨gb287, 0, none⟩) (Kd.R_types HO_300002.out BK287.out (by decide)) (fun _ hk => hk.2) (.int .i64 t288)) (fun _ hk => hk.2) (.slice Ao9 t289.length co9)) (fun _ hk => hk.2) (.slice Ao10 t292.length co10)) (fun _ hk => hk.2) (.slice Ao181 x300003_2.length co181)) (fun _ hk => ⟨hk.1.1, ⟨hk.1.2.2, hk.1.2.1⟩⟩), by (with_reducible repeat (first | apply Kd.N_alloc | apply Kd.N_drewN | apply Kd.N_drew)); exact Kd.N_mono (Kd.N_far (p := ⟨gb287, 3, none⟩) (Kd.N_far (p := ⟨gb287, 2, none⟩) (Kd.N_far (p := ⟨gb287, 1, none⟩) (Kd.N_far (p := ⟨gb287, 0, none⟩) (Kd.N_mono HO_300003.out (fun k_ hk => (⟨hk, hk.2.2.2.2.1⟩ : _ ∧ k_ ≠ gb287))) (fun _ hk => hk.2) (.int .i64 t288)) (fun _ hk => hk.2) (.slice Ao9 t289.length co9)) (fun _ hk => hk.2) (.slice Ao10 t292.length co10)) (fun _ hk => hk.2) (.slice Ao181 x300003_2.length co181)) (fun _ hk => ⟨hk.1.1, ⟨hk.1.2.2.1, ⟨hk.1.2.2.2.1, hk.1.2.1⟩⟩⟩), by (with_reducible repeat (first | apply Kd.R_alloc | apply Kd.R_drewN | apply Kd.R_drew)); exact Kd.R_mono (Kd.R_far (p := ⟨gb287, 3, none⟩) (Kd.R_far (p := ⟨gb287, 2, none⟩) (Kd.R_far (p := ⟨gb287, 1, none⟩) (Kd.R_far (p := ⟨gb287, 0, none⟩) (Kd.R_types HO_5.out BK287.out (by decide)) (fun _ hk => hk.2) (.int .i64 t288)) (fun _ hk => hk.2) (.slice Ao9 t289.length co9)) (fun _ hk => hk.2) (.slice Ao10 t292.length co10)) (fun _ hk => hk.2) (.slice Ao181 x300003_2.length co181)) (fun _ hk => ⟨hk.1.1, ⟨hk.1.2.1, hk.1.2.2⟩⟩), sAIsS77_12, sABelo_12, sAKeep_12⟩
           ·rw [if_neg c160] at H
            have c160b0 := beq_eq_false_iff_ne.mpr c160
            have c160b1 := bne_iff_ne.mpr c160
            simp only [Option.some.injEq, Prod.mk.injEq] at H
            obtain ⟨rfl, rfl, rfl, rfl, rfl, rfl⟩ := H
            have hnb184 := NB299_287.out; have hnc184 := NB287_299.out; have hnb185 := NB299_0.out; have hnc185 := NB0_299.out
            obtain ⟨hcz186_0, hcz186_1, hcz186_2, hcz186_3, hfz186_0, hfz186_1, hfz186_2, hfz186_3⟩ := cf4_ BK299
            go_wp2_with (first | ((with_reducible refine gate_callee (f := 45) rfl ?_); refine gL_ (some 24) Try.func45 #[.pointer (some ⟨g, 0, none⟩), .int .i64 30] ?_; (with_reducible refine (spec_l1Rd_below.calls g s0_0 x1001_1 30 t308 t309 w0 _ ?side1 ?side2 A22.out).mono ?_); (case side1 => repeat (first | (with_reducible first | exact HI0.out | apply IsS77.alloc | apply IsS77.drewN | apply IsS77.drew | apply IsS77.set_1 | refine IsS77.far ?_ NB0_287.out _ | refine IsS77.far ?_ NB0_299.out _) | exact HI0.out)); (case side2 => repeat (first | (with_reducible first | exact HB.out | apply below_alloc | apply pw_below_drewN | apply below_drew1 | refine below_set ?_ (IsS77.ge HI0.out) | refine below_set ?_ GE287.out | refine below_set ?_ GE299.out) | exact HB.out)); rintro e w187 ⟨rfl, hi, hb, hk⟩; refine ⟨_, rfl, ?_⟩; replace HO_5 := Aside0.mk (Kd.R_mono (Kd.R_keep (IsS77.apart (show IsS77 w0 _ g s0_0 x1001_1 from sAIsS77_12) (rT_ HO_5) (by decide)) hk (fun _ h => h.2)) (fun _ h => h.1)); replace HO_300001 := Aside0.mk (Kd.R_mono (Kd.R_keep (IsS77.apart (show IsS77 w0 _ g s0_0 x1001_1 from sAIsS77_12) (rT_ HO_300001) (by decide)) hk (fun _ h => h.2)) (fun _ h => h.1)); replace HO_300002 := Aside0.mk (Kd.R_mono (Kd.R_keep (IsS77.apart (show IsS77 w0 _ g s0_0 x1001_1 from sAIsS77_12) (rT_ HO_300002) (by decide)) hk (fun _ h => h.2)) (fun _ h => h.1)); replace HO_300003 := Aside0.mk (Kd.N_mono (Kd.N_keep (Kd.N_mono (ok := fun k_ => (((w.heap.size ≤ k_)) ∧ (some k_ ≠ (u5 : Value).ownBlock ∧ (some k_ ≠ (.slice Ao9 t289.length co9 : Value).ownBlock ∧ (some k_ ≠ (.slice Ao10 t292.length co10 : Value).ownBlock ∧ (k_ ≠ gb287 ∧ (k_ ≠ gb299 ∧ k_ ≠ g))))))) (by (with_reducible repeat (first | apply Kd.N_alloc | apply Kd.N_drewN | apply Kd.N_drew)); exact HO_300003.out) (fun k_ hk_ => (⟨hk_, hk_.2.2.2.2.2.2⟩ : _ ∧ k_ ≠ g))) hk (fun _ h => h.2)) (fun _ h => h.1)); replace BK287 := Aside0.mk (KeepBut.blk hk (g' := gb287) (o := .cells #[.int .i64 0, .slice none 0 0, .slice none 0 0, .slice none 0 0] 30 (0, 0)) (bT_ BK287) NB287_0.out (by simp)); replace BK299 := Aside0.mk (KeepBut.blk hk (g' := gb299) (o := .cells #[.int .i64 t288, .slice Ao9 t289.length co9, .slice Ao10 t292.length co10, .slice Ao11 t295.length co11] 30 (0, 0)) (bT_ BK299) NB299_0.out (by simp)); replace HK := Aside0.mk (KeepBut.trans (w := w) (row := none) sAKeep_12 hk (.inl rfl)); replace HB := Aside0.mk (hb); replace HI0 := Aside0.mk (hi); (try clear hb); (try clear hk); (try clear hi); obtain ⟨hcz188_0, hcz188_1, hcz188_2, hcz188_3, hfz188_0, hfz188_1, hfz188_2, hfz188_3⟩ := cf4_ BK299; have hnb189 := NB287_0.out; have hnc189 := NB0_287.out; obtain ⟨hcz190_0, hcz190_1, hcz190_2, hcz190_3, hfz190_0, hfz190_1, hfz190_2, hfz190_3⟩ := cf4_ BK287))
            refine bodyPost_ret (results_ct rfl _ _ gb287 30 #[.int .i64 t288, .slice Ao9 t289.length co9, .slice Ao10 t292.length co10, .slice Ao11 t295.length co11] (0, 0) _ rfl (bP_ BK287) Try.underlying30 rfl (by kernel_rfl)) rfl ?_
            exact ⟨_, _, _, _, by first | rfl | (simp [errW_none, errW_some] <;> rfl) | (simp [*, errW_none, errW_some] <;> rfl), by (with_reducible repeat (first | apply Kd.R_alloc | apply Kd.R_drewN | apply Kd.R_drew)); exact Kd.R_mono (Kd.R_far (p := ⟨gb287, 3, none⟩) (Kd.R_far (p := ⟨gb287, 2, none⟩) (Kd.R_far (p := ⟨gb287, 1, none⟩) (Kd.R_far (p := ⟨gb287, 0, none⟩) (Kd.R_types HO_300001.out BK287.out (by decide)) (fun _ hk => hk.2) (.int .i64 t288)) (fun _ hk => hk.2) (.slice Ao9 t289.length co9)) (fun _ hk => hk.2) (.slice Ao10 t292.length co10)) (fun _ hk => hk.2) (.slice Ao11 t295.length co11)) (fun _ hk => ⟨hk.1.1, ⟨hk.1.2.2, hk.1.2.1⟩⟩), by (with_reducible repeat (first | apply Kd.R_alloc | apply Kd.R_drewN | apply Kd.R_drew)); exact Kd.R_mono (Kd.R_far (p := ⟨gb287, 3, none⟩) (Kd.R_far (p := ⟨gb287, 2, none⟩) (Kd.R_far (p := ⟨gb287, 1, none⟩) (Kd.R_far (p := ⟨gb287, 0, none⟩) (Kd.R_types HO_300002.out BK287.out (by decide)) (fun _ hk => hk.2) (.int .i64 t288)) (fun _ hk => hk.2) (.slice Ao9 t289.length co9)) (fun _ hk => hk.2) (.slice Ao10 t292.length co10)) (fun _ hk => hk.2) (.slice Ao11 t295.length co11)) (fun _ hk => ⟨hk.1.1, ⟨hk.1.2.2, hk.1.2.1⟩⟩), by (with_reducible repeat (first | apply Kd.N_alloc | apply Kd.N_drewN | apply Kd.N_drew)); exact Kd.N_mono (Kd.N_far (p := ⟨gb287, 3, none⟩) (Kd.N_far (p := ⟨gb287, 2, none⟩) (Kd.N_far (p := ⟨gb287, 1, none⟩) (Kd.N_far (p := ⟨gb287, 0, none⟩) (Kd.N_mono HO_300003.out (fun k_ hk => (⟨hk, hk.2.2.2.2.1⟩ : _ ∧ k_ ≠ gb287))) (fun _ hk => hk.2) (.int .i64 t288)) (fun _ hk => hk.2) (.slice Ao9 t289.length co9)) (fun _ hk => hk.2) (.slice Ao10 t292.length co10)) (fun _ hk => hk.2) (.slice Ao11 t295.length co11)) (fun _ hk => ⟨hk.1.1, ⟨hk.1.2.2.1, ⟨hk.1.2.2.2.1, hk.1.2.1⟩⟩⟩), by (with_reducible repeat (first | apply Kd.R_alloc | apply Kd.R_drewN | apply Kd.R_drew)); exact Kd.R_mono (Kd.R_far (p := ⟨gb287, 3, none⟩) (Kd.R_far (p := ⟨gb287, 2, none⟩) (Kd.R_far (p := ⟨gb287, 1, none⟩) (Kd.R_far (p := ⟨gb287, 0, none⟩) (Kd.R_types HO_5.out BK287.out (by decide)) (fun _ hk => hk.2) (.int .i64 t288)) (fun _ hk => hk.2) (.slice Ao9 t289.length co9)) (fun _ hk => hk.2) (.slice Ao10 t292.length co10)) (fun _ hk => hk.2) (.slice Ao11 t295.length co11)) (fun _ hk => ⟨hk.1.1, ⟨hk.1.2.1, hk.1.2.2⟩⟩), sAIsS77_12, sABelo_12, sAKeep_12⟩

end Go.Proofs.Ytcjhbmjimjbphaa.QFnDescends
