-- Written by a program of this session out of the printer's texts and contracts of its own.
import Derived.Test.YtcjhbmjimjbphaaSq
import Derived.Test.YtcjhbmjimjbphaaQFnDescendsx0
import Derived.Test.YtcjhbmjimjbphaaQFnDescendsx3
import Derived.Test.YtcjhbmjimjbphaaQFnDescendsx6
namespace Go.Proofs.Ytcjhbmjimjbphaa.QFnDescends
open Go.RowKit Go.Proofs.YtcjhbmjimjbphaaW.PrintWords Go.Proofs.YtcjhbmjimjbphaaW.PrintLast Go.Proofs.YtcjhbmjimjbphaaW.PrintMore Go.Proofs.Ytcjhbmjimjbphaa.Sq
attribute [local go_sem] max2_int min2_int max_two min_two max_three min_three max_four min_four   -- for this text's walks alone
set_option linter.unusedVariables false
set_option linter.unusedSimpArgs false
theorem sABelo_7 {b : Nat} {w W : World} (h : Below b w W := by repeat (first | (with_reducible first | exact Aside0.out (by assumption) | apply below_alloc | apply pw_below_drewN | apply below_drew1 | refine below_set ?_ (Aside0.out (by assumption))) | exact Aside0.out (by assumption))) : Below b w W := h

/-! ### spec_l15Best: function 37 -/
mutual
def spec_l15Best.l0 : Nat → List Int → Int → Int → Int → Int → Int → List Int → List Int → List (S52) → Option (Int)
 | 0, _, _, _, _, _, _, _, _, _ => none
 | k + 1, x1, x2, x7, x8, x9, x180000, x180001, x180002, x180003 => if x9 ≥ (-1) then (spec_l15Best.l1 k x1 x2 x7 x8 x9 0 131072 x180000 x180001 x180002 x180003) else (some x7)
def spec_l15Best.l1 : Nat → List Int → Int → Int → Int → Int → Int → Int → Int → List Int → List Int → List (S52) → Option (Int)
 | 0, _, _, _, _, _, _, _, _, _, _, _ => none
 | k + 1, x1, x2, x7, x8, x9, x10, x11, x180000, x180001, x180002, x180003 => if x11 > 0 then ((spec_l15Moved.f x1 x2 (wrap64 (x9 * (wrap64 (x10 + x11))))).bind fun t181 => ((spec_l15Cost.f k x180000 x180001 x180002 x180003 t181).bind fun t184 => ((spec_l15Moved.f x1 x2 (wrap64 ((wrap64 (x9 * (wrap64 (x10 + x11)))) - x9))).bind fun t185 => ((spec_l15Cost.f k x180000 x180001 x180002 x180003 t185).bind fun t188 => (if t184 < t188 then (spec_l15Best.l1 k x1 x2 x7 x8 x9 (wrap64 (x10 + x11)) (wrap64 (Int.tdiv x11 2)) x180000 x180001 x180002 x180003) else (spec_l15Best.l1 k x1 x2 x7 x8 x9 x10 (wrap64 (Int.tdiv x11 2)) x180000 x180001 x180002 x180003)))))) else ((spec_l15Moved.f x1 x2 (wrap64 (x9 * x10))).bind fun t189 => ((spec_l15Cost.f k x180000 x180001 x180002 x180003 t189).bind fun t192 => (if t192 < x8 then (spec_l15Best.l0 k x1 x2 (wrap64 (x9 * x10)) t192 (wrap64 (x9 - 2)) x180000 x180001 x180002 x180003) else (spec_l15Best.l0 k x1 x2 x7 x8 (wrap64 (x9 - 2)) x180000 x180001 x180002 x180003))))
end
def spec_l15Best.f (k : Nat) (a0_0 : Int) (l0_1 : List Int) (l0_2 : List Int) (l0_3 : List (S52)) (l1 : List Int) (a2 : Int) : Option (Int) := (spec_l15Cost.f k a0_0 l0_1 l0_2 l0_3 l1).bind fun t180 => (spec_l15Best.l0 k l1 a2 0 t180 1 a0_0 l0_1 l0_2 l0_3)
theorem spec_l15Best.mono_l : ∀ k, (∀ y0 y1 y2 y3 y4 y5 y6 y7 y8, LeO (spec_l15Best.l0 k y0 y1 y2 y3 y4 y5 y6 y7 y8) (spec_l15Best.l0 (k + 1) y0 y1 y2 y3 y4 y5 y6 y7 y8)) ∧ (∀ y0 y1 y2 y3 y4 y5 y6 y7 y8 y9 y10, LeO (spec_l15Best.l1 k y0 y1 y2 y3 y4 y5 y6 y7 y8 y9 y10) (spec_l15Best.l1 (k + 1) y0 y1 y2 y3 y4 y5 y6 y7 y8 y9 y10))
 | 0 => ⟨fun _ _ _ _ _ _ _ _ _ r h => by simp [spec_l15Best.l0] at h, fun _ _ _ _ _ _ _ _ _ _ _ r h => by simp [spec_l15Best.l1] at h⟩
 | k + 1 => by
  obtain ⟨ih0, ih1⟩ := spec_l15Best.mono_l k
  refine ⟨?_, ?_⟩
  intro y0 y1 y2 y3 y4 y5 y6 y7 y8; unfold spec_l15Best.l0; rotate_left
  intro y0 y1 y2 y3 y4 y5 y6 y7 y8 y9 y10; unfold spec_l15Best.l1; rotate_left
  all_goals repeat' first
  | (with_reducible exact ih0 _ _ _ _ _ _ _ _ _)
  | (with_reducible exact ih1 _ _ _ _ _ _ _ _ _ _ _)
  | (with_reducible exact spec_l15Cost.mono _ _ _ _ _ _)
  | (with_reducible exact LeO.refl _)
  | (with_reducible exact LeO.none _)
  | (with_reducible refine LeO.ite ?_ ?_)
  | (with_reducible refine LeO.bind ?_ (fun _ => ?_))
  | exact ih0 _ _ _ _ _ _ _ _ _
  | exact ih1 _ _ _ _ _ _ _ _ _ _ _
  | exact spec_l15Cost.mono _ _ _ _ _ _
  | exact LeO.none _
  | refine LeO.ite ?_ ?_
  | refine LeO.bind ?_ (fun _ => ?_)
theorem spec_l15Best.mono : ∀ a0 a1 a2 a3 a4 a5 k, LeO (spec_l15Best.f k a0 a1 a2 a3 a4 a5) (spec_l15Best.f (k + 1) a0 a1 a2 a3 a4 a5) := by
 intro a0 a1 a2 a3 a4 a5 k
 obtain ⟨ih0, ih1⟩ := spec_l15Best.mono_l k
 unfold spec_l15Best.f
 repeat' first
   | (with_reducible exact ih0 _ _ _ _ _ _ _ _ _)
   | (with_reducible exact ih1 _ _ _ _ _ _ _ _ _ _ _)
   | (with_reducible exact spec_l15Cost.mono _ _ _ _ _ _)
   | (with_reducible exact LeO.refl _)
   | (with_reducible exact LeO.none _)
   | (with_reducible refine LeO.ite ?_ ?_)
   | (with_reducible refine LeO.bind ?_ (fun _ => ?_))
   | exact ih0 _ _ _ _ _ _ _ _ _
   | exact ih1 _ _ _ _ _ _ _ _ _ _ _
   | exact spec_l15Cost.mono _ _ _ _ _ _
   | exact LeO.none _
   | refine LeO.ite ?_ ?_
   | refine LeO.bind ?_ (fun _ => ?_)
def spec_l15Best.T11 : Bool × List (List Nat × List Nat) := (true, [([], []), ([], []), ([], []), ([], []), ([1, 2, 3], [1, 2, 3]), ([0, 4, 4], [0, 4]), ([], []), ([], []), ([], []), ([], []), ([], []), ([9, 10], [9, 10]), ([7, 8, 11, 5], [7, 8, 11]), ([6, 12, 12], [6, 12]), ([5, 13], [5, 13])])
def spec_l15Best.B11 : List Nat := [0, 0, 0, 0, 14, 31, 0, 0, 0, 0, 0, 1536, 4031, 8191, 16383]
theorem spec_l15Best.tab11 : rtab .any (opsOf Try.f37 11) = spec_l15Best.T11 := by kernel_rfl
theorem spec_l15Best.bits11 : waitsOk spec_l15Best.T11.2 spec_l15Best.B11 = true := by kernel_rfl
def spec_l15Best.T13 : Bool × List (List Nat × List Nat) := (true, [([], []), ([], []), ([], []), ([], []), ([], []), ([3, 4], [3, 4]), ([1, 2, 5], [1, 2, 5]), ([0, 6, 6], [0, 6]), ([7, 7, 0, 1, 2, 3, 4, 5, 6, 7], [7])])
def spec_l15Best.B13 : List Nat := [0, 0, 0, 0, 0, 24, 62, 127, 255]
theorem spec_l15Best.tab13 : rtab .any (opsOf Try.f37 13) = spec_l15Best.T13 := by kernel_rfl
theorem spec_l15Best.bits13 : waitsOk spec_l15Best.T13.2 spec_l15Best.B13 = true := by kernel_rfl
set_option maxHeartbeats 8000000 in
set_option maxRecDepth 100000 in
theorem spec_l15Best.calls (k : Nat) (a0_0 : Int) (A0_1 : Option Addr) (c0_1 : Nat) (l0_1 : List Int) (A0_2 : Option Addr) (c0_2 : Nat) (l0_2 : List Int) (A0_3 : Option Addr) (c0_3 : Nat) (l0_3 : List (S52)) (A1 : Option Addr) (c1 : Nat) (l1 : List Int) (a2 : Int) (r : Int) (w : World) (hr0_1 : Kd.C (Kd.int .i64) w A0_1 l0_1.length l0_1) (hc0_1 : l0_1.length ≤ c0_1) (hr0_2 : Kd.C (Kd.int .i64) w A0_2 l0_2.length l0_2) (hc0_2 : l0_2.length ≤ c0_2) (hr0_3 : Kd.C k52 w A0_3 l0_3.length l0_3) (hc0_3 : l0_3.length ≤ c0_3) (hr1 : Kd.C (Kd.int .i64) w A1 l1.length l1) (hc1 : l1.length ≤ c1) (h : spec_l15Best.f k a0_0 l0_1 l0_2 l0_3 l1 a2 = some r) :
  Calls Try.prog 37 #[.agg #[.int .i64 a0_0, .slice A0_1 l0_1.length c0_1, .slice A0_2 l0_2.length c0_2, .slice A0_3 l0_3.length c0_3], .slice A1 l1.length c1, .int .i64 a2] w fun e w' => e = .returned (.int .i64 r) ∧ Below w.heap.size w w' := by
 have hu30 := Try.underlying30; have HR0_1 := Aside0.mk hr0_1; have HC0_1 := Aside0.mk hc0_1; clear hr0_1 hc0_1; have HR0_2 := Aside0.mk hr0_2; have HC0_2 := Aside0.mk hc0_2; clear hr0_2 hc0_2; have HR0_3 := Aside0.mk hr0_3; have HC0_3 := Aside0.mk hc0_3; clear hr0_3 hc0_3; have HR1 := Aside0.mk hr1; have HC1 := Aside0.mk hc1; clear hr1 hc1
 have HB := Aside0.mk (Below.refl w.heap.size w)
 have H : ((spec_l15Cost.f k a0_0 l0_1 l0_2 l0_3 l1).bind fun t180 => (spec_l15Best.l0 k l1 a2 0 t180 1 a0_0 l0_1 l0_2 l0_3)) = some r := h
 clear h; replace H := Option.bind_eq_some_iff.mp H
 obtain ⟨t180, A40, H⟩ := H
 replace H : (spec_l15Best.l0 k l1 a2 0 t180 1 a0_0 l0_1 l0_2 l0_3) = some r := H
 have A4 := Aside0.mk A40; clear A40; have H' := Aside0.mk H; clear H
 go_enter Try.func37, Try.ntmps37
 go_wp2_with (first | ((with_reducible refine gate_dst (N := 3) rfl ?_); refine box_event ?hg (N := 3) ?hd (cs := #[.int .i64 a0_0, .slice A0_1 l0_1.length c0_1, .slice A0_2 l0_2.length c0_2, .slice A0_3 l0_3.length c0_3]) (t := 30) ?hr ?_; (case hd => rfl); (case hg => rfl); (case hr => first | (go_simp; done) | (go_simp; rfl)); intro gb179 hg w5 hbox hb; have BK179 := Aside0.mk (hbox); have GW179 := gE_ HB hg; have GE179 := gE_ HB hg; replace HB := bS_ HB hb; clear hb hbox hg; obtain ⟨hcz6_0, hcz6_1, hcz6_2, hcz6_3, hfz6_0, hfz6_1, hfz6_2, hfz6_3⟩ := cf4_ BK179) | ((with_reducible refine gate_callee (f := 29) rfl ?_); refine gL_ (some 16) Try.func29 #[.agg #[.int .i64 a0_0, .slice A0_1 l0_1.length c0_1, .slice A0_2 l0_2.length c0_2, .slice A0_3 l0_3.length c0_3], .slice A1 l1.length c1] ?_; (with_reducible refine (spec_l15Cost.calls k a0_0 _ _ l0_1 _ _ l0_2 _ _ l0_3 _ _ l1 t180 _ ?side1 ?side2 ?side3 ?side4 ?side5 ?side6 ?side7 ?side8 A4.out).mono ?_); (case side1 => exact cB_ HR0_1 HB); (case side2 => exact HC0_1.out); (case side3 => exact cB_ HR0_2 HB); (case side4 => exact HC0_2.out); (case side5 => exact cB_ HR0_3 HB); (case side6 => exact HC0_3.out); (case side7 => exact cB_ HR1 HB); (case side8 => exact HC1.out); rintro e w7 ⟨rfl, hb⟩; refine ⟨_, rfl, ?_⟩; replace BK179 := bB_ BK179 hb; replace HB := bS_ HB hb; (try clear hb)))
 go_loopg [7, 8, 9] k (fun kq v7 v8 v9 w' => ∃ (x7_1 : Int) (x8_1 : Int) (x9_1 : Int), v7 = .int .i64 x7_1 ∧ v8 = .int .i64 x8_1 ∧ v9 = .int .i64 x9_1 ∧ Aside0 (spec_l15Best.l0 kq l1 a2 x7_1 x8_1 x9_1 a0_0 l0_1 l0_2 l0_3 = some r) ∧ Aside0 (kq ≤ k) ∧ Aside0 (w'.heap[gb179]? = some (.cells #[.int .i64 a0_0, (.slice A0_1 l0_1.length c0_1), (.slice A0_2 l0_2.length c0_2), (.slice A0_3 l0_3.length c0_3)] 30 (0, 0))) ∧ Aside0 (Below w.heap.size w w'))
 case atStart => exact ⟨(0), (t180), (1), (by first | rfl | (simp; done) | (simp [*]; done)), (by first | rfl | (simp; done) | (simp [*]; done)), (by first | rfl | (simp; done) | (simp [*]; done)), H', ⟨Nat.le_refl _⟩, ⟨bT_ BK179⟩, ⟨sABelo_7⟩⟩
 case round =>
  clear H'; (try clear c1); (try clear hcz6_0); (try clear hcz6_1); (try clear hcz6_2); (try clear hcz6_3); (try clear hfz6_0); (try clear hfz6_1); (try clear hfz6_2); (try clear hfz6_3)
  obtain ⟨x7_1, x8_1, x9_1, rfl, rfl, rfl, HA, HK1, BK179, HB⟩ := hrel
  cases gk with
  | zero => exact absurd HA.out (by simp [spec_l15Best.l0])
  | succ k1 =>
   have H := HA.out; clear HA
   simp only [spec_l15Best.l0] at H
   by_cases c8 : x9_1 ≥ (-1)
   ·rw [if_pos c8] at H
    have c8b0 : decide ((-1) ≤ x9_1) = true := decide_eq_true c8
    clear c8; have H' := Aside0.mk H; clear H
    go_wp2
    go_loopg [10, 11] k1 (fun kq v10 v11 w' => ∃ (x10_2 : Int) (x11_2 : Int), v10 = .int .i64 x10_2 ∧ v11 = .int .i64 x11_2 ∧ Aside0 (spec_l15Best.l1 kq l1 a2 x7_1 x8_1 x9_1 x10_2 x11_2 a0_0 l0_1 l0_2 l0_3 = some r) ∧ Aside0 (kq ≤ k1) ∧ Aside0 (w'.heap[gb179]? = some (.cells #[.int .i64 a0_0, (.slice A0_1 l0_1.length c0_1), (.slice A0_2 l0_2.length c0_2), (.slice A0_3 l0_3.length c0_3)] 30 (0, 0))) ∧ Aside0 (Below w.heap.size w w'))
    case atStart => exact ⟨(0), (131072), (by first | rfl | (simp; done) | (simp [*]; done)), (by first | rfl | (simp; done) | (simp [*]; done)), H', ⟨Nat.le_refl _⟩, ⟨bT_ BK179⟩, ⟨sABelo_7⟩⟩
    case round =>
     clear H'; (try clear c1); (try clear c8); (try clear c8b0); (try clear hcz6_0); (try clear hcz6_1); (try clear hcz6_2); (try clear hcz6_3); (try clear hfz6_0); (try clear hfz6_1); (try clear hfz6_2); (try clear hfz6_3)
     obtain ⟨x10_2, x11_2, rfl, rfl, HA, HK2, BK179, HB⟩ := hrel
     cases gk with
     | zero => exact absurd HA.out (by simp [spec_l15Best.l1])
     | succ k2 =>
      have H := HA.out; clear HA
      simp only [spec_l15Best.l1] at H
      by_cases c9 : x11_2 > 0
      ·rw [if_pos c9] at H
       have c9b0 : decide (0 < x11_2) = true := decide_eq_true c9
       clear c9; replace H := Option.bind_eq_some_iff.mp H
       obtain ⟨t181, A100, H⟩ := H
       replace H : ((spec_l15Cost.f k2 a0_0 l0_1 l0_2 l0_3 t181).bind fun t184 => ((spec_l15Moved.f l1 a2 (wrap64 ((wrap64 (x9_1 * (wrap64 (x10_2 + x11_2)))) - x9_1))).bind fun t185 => ((spec_l15Cost.f k2 a0_0 l0_1 l0_2 l0_3 t185).bind fun t188 => (if t184 < t188 then (spec_l15Best.l1 k2 l1 a2 x7_1 x8_1 x9_1 (wrap64 (x10_2 + x11_2)) (wrap64 (Int.tdiv x11_2 2)) a0_0 l0_1 l0_2 l0_3) else (spec_l15Best.l1 k2 l1 a2 x7_1 x8_1 x9_1 x10_2 (wrap64 (Int.tdiv x11_2 2)) a0_0 l0_1 l0_2 l0_3))))) = some r := H
       have A10 := Aside0.mk A100; clear A100; replace H := Option.bind_eq_some_iff.mp H
       obtain ⟨t184, A110, H⟩ := H
       replace H : ((spec_l15Moved.f l1 a2 (wrap64 ((wrap64 (x9_1 * (wrap64 (x10_2 + x11_2)))) - x9_1))).bind fun t185 => ((spec_l15Cost.f k2 a0_0 l0_1 l0_2 l0_3 t185).bind fun t188 => (if t184 < t188 then (spec_l15Best.l1 k2 l1 a2 x7_1 x8_1 x9_1 (wrap64 (x10_2 + x11_2)) (wrap64 (Int.tdiv x11_2 2)) a0_0 l0_1 l0_2 l0_3) else (spec_l15Best.l1 k2 l1 a2 x7_1 x8_1 x9_1 x10_2 (wrap64 (Int.tdiv x11_2 2)) a0_0 l0_1 l0_2 l0_3)))) = some r := H
       have A11 := Aside0.mk A110; clear A110; replace H := Option.bind_eq_some_iff.mp H
       obtain ⟨t185, A120, H⟩ := H
       replace H : ((spec_l15Cost.f k2 a0_0 l0_1 l0_2 l0_3 t185).bind fun t188 => (if t184 < t188 then (spec_l15Best.l1 k2 l1 a2 x7_1 x8_1 x9_1 (wrap64 (x10_2 + x11_2)) (wrap64 (Int.tdiv x11_2 2)) a0_0 l0_1 l0_2 l0_3) else (spec_l15Best.l1 k2 l1 a2 x7_1 x8_1 x9_1 x10_2 (wrap64 (Int.tdiv x11_2 2)) a0_0 l0_1 l0_2 l0_3))) = some r := H
       have A12 := Aside0.mk A120; clear A120; replace H := Option.bind_eq_some_iff.mp H
       obtain ⟨t188, A130, H⟩ := H
       replace H : (if t184 < t188 then (spec_l15Best.l1 k2 l1 a2 x7_1 x8_1 x9_1 (wrap64 (x10_2 + x11_2)) (wrap64 (Int.tdiv x11_2 2)) a0_0 l0_1 l0_2 l0_3) else (spec_l15Best.l1 k2 l1 a2 x7_1 x8_1 x9_1 x10_2 (wrap64 (Int.tdiv x11_2 2)) a0_0 l0_1 l0_2 l0_3)) = some r := H
       have A13 := Aside0.mk A130; clear A130
       by_cases c14 : t184 < t188
       ·rw [if_pos c14] at H
        have c14b0 := decide_eq_true c14
        clear c14; have H' := Aside0.mk H; clear H
        try go_wp2
        replace BK179 := Aside0.mk (blk_drew BK179.out)
        replace HB := Aside0.mk (below_drew1 HB.out)
        refine start_ (n := 15) (S := fun w' => w'.cell? ⟨gb179, 0, none⟩ = some (.int .i64 a0_0) ∧ w'.cell? ⟨gb179, 1, none⟩ = some (.slice A0_1 l0_1.length c0_1) ∧ w'.cell? ⟨gb179, 2, none⟩ = some (.slice A0_2 l0_2.length c0_2) ∧ w'.cell? ⟨gb179, 3, none⟩ = some (.slice A0_3 l0_3.length c0_3)) (ds := []) #[false, false, false, false, false, false, false, false, false, false, false, false, false, false, false] (by kernel_rfl) rfl rfl ⟨(blk_cell BK179.out 0).trans rfl, (blk_cell BK179.out 1).trans rfl, (blk_cell BK179.out 2).trans rfl, (blk_cell BK179.out 3).trans rfl⟩ (fun hHeld => ?_); refine with_tabW spec_l15Best.tab11 spec_l15Best.bits11 (fun HT_ HW_ => ?_)
        generalize wr.drew = w15 at BK179 HB hHeld ⊢
        refine pT_ 1 (some 31) #[false, true, false, false, false, false, false, false, false, false, false, false, false, false, false] HT_ ?_
        refine pT_ 2 (some 32) #[false, true, true, false, false, false, false, false, false, false, false, false, false, false, false] HT_ ?_
        refine pT_ 3 (some 33) #[false, true, true, true, false, false, false, false, false, false, false, false, false, false, false] HT_ ?_
        refine pT_ 7 (some 37) #[false, true, true, true, false, false, false, true, false, false, false, false, false, false, false] HT_ ?_
        refine pT_ 8 (some 38) #[false, true, true, true, false, false, false, true, true, false, false, false, false, false, false] HT_ ?_
        refine pT_ 9 (some 39) #[false, true, true, true, false, false, false, true, true, true, false, false, false, false, false] HT_ ?_
        refine pT_ 10 (some 40) #[false, true, true, true, false, false, false, true, true, true, true, false, false, false, false] HT_ ?_
        refine pT_ 11 (some 41) #[false, true, true, true, false, false, false, true, true, true, true, true, false, false, false] HT_ ?_
        refine tT_ 0 (some 30) #[true, true, true, true, false, false, false, true, true, true, true, true, false, false, false] HT_ HW_ hHeld ?_ (hy := by rintro w' ⟨s0, s1, s2, s3⟩; go_simp; with_reducible rfl)
        refine tT_ 6 (some 36) #[true, true, true, true, false, false, true, true, true, true, true, true, false, false, false] HT_ HW_ hHeld ?_ (hy := by rintro w' ⟨s0, s1, s2, s3⟩; go_simp; with_reducible rfl)
        refine one_ (i := 4) (N := some 34) #[true, true, true, true, true, false, true, true, true, true, true, true, false, false, false] rfl rfl (one_of HT_.out (by kernel_rfl)) (by decide) (fun K hK => ?_)
        refine goes_ Try.func35 (by kernel_rfl) rfl #[.slice A1 l1.length c1, .int .i64 a2, .int .i64 (wrap64 (x9_1 * (wrap64 (x10_2 + x11_2))))] (by rfl) rfl rfl (by (try simp only [List.map_toArray, List.map_cons, List.map_nil]); first | done | rfl | (simp only [List.length_drop, List.length_take]; rfl)) ?_
        with_reducible refine (spec_l15Moved.calls _ _ l1 a2 (wrap64 (x9_1 * (wrap64 (x10_2 + x11_2)))) t181 _ ?side1 ?side2 A10.out).mono ?_
        (case side1 => exact cB_ HR1 HB)
        (case side2 => exact HC1.out)
        rintro e w16 ⟨v182, rfl, ho0, hb⟩
        refine ⟨_, rfl, ?_⟩
        have HO183 := rL_ ho0 HB; replace BK179 := bB_ BK179 hb; replace HB := bS_ HB hb; (try clear hb); (try clear ho0)
        obtain ⟨Ao17, co17, eo17⟩ := Kd.R_slice HO183.out
        (first | subst eo17 | (injection eo17 with f1_ f2_ f3_; have f4_ := f1_.symm; have f5_ := f3_.symm; clear f1_ f2_ f3_; subst f4_; subst f5_))
        refine hK.out _ _ ⟨(blk_cell BK179.out 0).trans rfl, (blk_cell BK179.out 1).trans rfl, (blk_cell BK179.out 2).trans rfl, (blk_cell BK179.out 3).trans rfl⟩ (fun hHeld => ?_)
        clear hK K
        refine nS_ (some 34) ?_
        refine one_ (i := 5) (N := some 35) #[true, true, true, true, true, true, true, true, true, true, true, true, false, false, false] rfl rfl (one_of HT_.out (by kernel_rfl)) (by decide) (fun K hK => ?_)
        refine goes_ Try.func29 (by kernel_rfl) rfl #[.agg #[.int .i64 a0_0, .slice A0_1 l0_1.length c0_1, .slice A0_2 l0_2.length c0_2, .slice A0_3 l0_3.length c0_3], .slice Ao17 t181.length co17] (by rfl) rfl rfl (by (try simp only [List.map_toArray, List.map_cons, List.map_nil]); first | done | rfl | (simp only [List.length_drop, List.length_take]; rfl)) ?_
        with_reducible refine (spec_l15Cost.calls k2 a0_0 _ _ l0_1 _ _ l0_2 _ _ l0_3 _ _ t181 t184 _ ?side1 ?side2 ?side3 ?side4 ?side5 ?side6 ?side7 ?side8 A11.out).mono ?_
        (case side1 => exact cB_ HR0_1 HB)
        (case side2 => exact HC0_1.out)
        (case side3 => exact cB_ HR0_2 HB)
        (case side4 => exact HC0_2.out)
        (case side5 => exact cB_ HR0_3 HB)
        (case side6 => exact HC0_3.out)
        (case side7 => exact rD_ HO183)
        (case side8 => exact (Kd.R_reads' HO183.out).2.1)
        rintro e w18 ⟨rfl, hb⟩
        refine ⟨_, rfl, ?_⟩
        replace HO183 := rB_ HO183 hb; replace BK179 := bB_ BK179 hb; replace HB := bS_ HB hb; (try clear hb)
        refine hK.out _ _ ⟨(blk_cell BK179.out 0).trans rfl, (blk_cell BK179.out 1).trans rfl, (blk_cell BK179.out 2).trans rfl, (blk_cell BK179.out 3).trans rfl⟩ (fun hHeld => ?_)
        clear hK K
        refine nS_ (some 35) ?_
        refine one_ (i := 12) (N := some 42) #[true, true, true, true, true, true, true, true, true, true, true, true, true, false, false] rfl rfl (one_of HT_.out (by kernel_rfl)) (by decide) (fun K hK => ?_)
        refine goes_ Try.func35 (by kernel_rfl) rfl #[.slice A1 l1.length c1, .int .i64 a2, .int .i64 (wrap64 ((wrap64 (x9_1 * (wrap64 (x10_2 + x11_2)))) - x9_1))] (by rfl) rfl rfl (by (try simp only [List.map_toArray, List.map_cons, List.map_nil]); first | done | rfl | (simp only [List.length_drop, List.length_take]; rfl)) ?_
        with_reducible refine (spec_l15Moved.calls _ _ l1 a2 (wrap64 ((wrap64 (x9_1 * (wrap64 (x10_2 + x11_2)))) - x9_1)) t185 _ ?side1 ?side2 A12.out).mono ?_
        (case side1 => exact cB_ HR1 HB)
        (case side2 => exact HC1.out)
        rintro e w19 ⟨v186, rfl, ho0, hb⟩
        refine ⟨_, rfl, ?_⟩
        have HO187 := rL_ (rN_ ho0 HO183) HB
        replace HO183 := rE_ HO183 ho0 hb; replace BK179 := bB_ BK179 hb; replace HB := bS_ HB hb; (try clear hb); (try clear ho0)
        obtain ⟨Ao20, co20, eo20⟩ := Kd.R_slice HO187.out
        (first | subst eo20 | (injection eo20 with f1_ f2_ f3_; have f4_ := f1_.symm; have f5_ := f3_.symm; clear f1_ f2_ f3_; subst f4_; subst f5_))
        refine hK.out _ _ ⟨(blk_cell BK179.out 0).trans rfl, (blk_cell BK179.out 1).trans rfl, (blk_cell BK179.out 2).trans rfl, (blk_cell BK179.out 3).trans rfl⟩ (fun hHeld => ?_)
        clear hK K
        refine nS_ (some 42) ?_
        refine one_ (i := 13) (N := some 43) #[true, true, true, true, true, true, true, true, true, true, true, true, true, true, false] rfl rfl (one_of HT_.out (by kernel_rfl)) (by decide) (fun K hK => ?_)
        refine goes_ Try.func29 (by kernel_rfl) rfl #[.agg #[.int .i64 a0_0, .slice A0_1 l0_1.length c0_1, .slice A0_2 l0_2.length c0_2, .slice A0_3 l0_3.length c0_3], .slice Ao20 t185.length co20] (by rfl) rfl rfl (by (try simp only [List.map_toArray, List.map_cons, List.map_nil]); first | done | rfl | (simp only [List.length_drop, List.length_take]; rfl)) ?_
        with_reducible refine (spec_l15Cost.calls k2 a0_0 _ _ l0_1 _ _ l0_2 _ _ l0_3 _ _ t185 t188 _ ?side1 ?side2 ?side3 ?side4 ?side5 ?side6 ?side7 ?side8 A13.out).mono ?_
        (case side1 => exact cB_ HR0_1 HB)
        (case side2 => exact HC0_1.out)
        (case side3 => exact cB_ HR0_2 HB)
        (case side4 => exact HC0_2.out)
        (case side5 => exact cB_ HR0_3 HB)
        (case side6 => exact HC0_3.out)
        (case side7 => exact rD_ HO187)
        (case side8 => exact (Kd.R_reads' HO187.out).2.1)
        rintro e w21 ⟨rfl, hb⟩
        refine ⟨_, rfl, ?_⟩
        replace HO183 := rB_ HO183 hb; replace HO187 := rB_ HO187 hb; replace BK179 := bB_ BK179 hb; replace HB := bS_ HB hb; (try clear hb)
        refine hK.out _ _ ⟨(blk_cell BK179.out 0).trans rfl, (blk_cell BK179.out 1).trans rfl, (blk_cell BK179.out 2).trans rfl, (blk_cell BK179.out 3).trans rfl⟩ (fun hHeld => ?_)
        clear hK K
        refine nS_ (some 43) ?_
        refine pT_ 14 (some 44) #[true, true, true, true, true, true, true, true, true, true, true, true, true, true, true] HT_ ?_
        refine done_ (done_of HT_.out (by kernel_rfl)) ?_
        try go_wp2
        go_roundg k2
        case measure => have := HK1.out; have := HK2.out; omega
        case rel => exact ⟨(wrap64 (x10_2 + x11_2)), (wrap64 (Int.tdiv x11_2 2)), (by first | rfl | (simp; done) | (simp [*]; done)), (by first | rfl | (simp; done) | (simp [*]; done)), H', ⟨by have := HK1.out; have := HK2.out; omega⟩, ⟨bT_ BK179⟩, ⟨sABelo_7⟩⟩
       ·rw [if_neg c14] at H
        have c14b0 := decide_eq_false c14
        clear c14; have H' := Aside0.mk H; clear H
        try go_wp2
        replace BK179 := Aside0.mk (blk_drew BK179.out)
        replace HB := Aside0.mk (below_drew1 HB.out)
        refine start_ (n := 15) (S := fun w' => w'.cell? ⟨gb179, 0, none⟩ = some (.int .i64 a0_0) ∧ w'.cell? ⟨gb179, 1, none⟩ = some (.slice A0_1 l0_1.length c0_1) ∧ w'.cell? ⟨gb179, 2, none⟩ = some (.slice A0_2 l0_2.length c0_2) ∧ w'.cell? ⟨gb179, 3, none⟩ = some (.slice A0_3 l0_3.length c0_3)) (ds := []) #[false, false, false, false, false, false, false, false, false, false, false, false, false, false, false] (by kernel_rfl) rfl rfl ⟨(blk_cell BK179.out 0).trans rfl, (blk_cell BK179.out 1).trans rfl, (blk_cell BK179.out 2).trans rfl, (blk_cell BK179.out 3).trans rfl⟩ (fun hHeld => ?_); refine with_tabW spec_l15Best.tab11 spec_l15Best.bits11 (fun HT_ HW_ => ?_)
        generalize wr.drew = w22 at BK179 HB hHeld ⊢
        refine pT_ 1 (some 31) #[false, true, false, false, false, false, false, false, false, false, false, false, false, false, false] HT_ ?_
        refine pT_ 2 (some 32) #[false, true, true, false, false, false, false, false, false, false, false, false, false, false, false] HT_ ?_
        refine pT_ 3 (some 33) #[false, true, true, true, false, false, false, false, false, false, false, false, false, false, false] HT_ ?_
        refine pT_ 7 (some 37) #[false, true, true, true, false, false, false, true, false, false, false, false, false, false, false] HT_ ?_
        refine pT_ 8 (some 38) #[false, true, true, true, false, false, false, true, true, false, false, false, false, false, false] HT_ ?_
        refine pT_ 9 (some 39) #[false, true, true, true, false, false, false, true, true, true, false, false, false, false, false] HT_ ?_
        refine pT_ 10 (some 40) #[false, true, true, true, false, false, false, true, true, true, true, false, false, false, false] HT_ ?_
        refine pT_ 11 (some 41) #[false, true, true, true, false, false, false, true, true, true, true, true, false, false, false] HT_ ?_
        refine tT_ 0 (some 30) #[true, true, true, true, false, false, false, true, true, true, true, true, false, false, false] HT_ HW_ hHeld ?_ (hy := by rintro w' ⟨s0, s1, s2, s3⟩; go_simp; with_reducible rfl)
        refine tT_ 6 (some 36) #[true, true, true, true, false, false, true, true, true, true, true, true, false, false, false] HT_ HW_ hHeld ?_ (hy := by rintro w' ⟨s0, s1, s2, s3⟩; go_simp; with_reducible rfl)
        refine one_ (i := 4) (N := some 34) #[true, true, true, true, true, false, true, true, true, true, true, true, false, false, false] rfl rfl (one_of HT_.out (by kernel_rfl)) (by decide) (fun K hK => ?_)
        refine goes_ Try.func35 (by kernel_rfl) rfl #[.slice A1 l1.length c1, .int .i64 a2, .int .i64 (wrap64 (x9_1 * (wrap64 (x10_2 + x11_2))))] (by rfl) rfl rfl (by (try simp only [List.map_toArray, List.map_cons, List.map_nil]); first | done | rfl | (simp only [List.length_drop, List.length_take]; rfl)) ?_
        with_reducible refine (spec_l15Moved.calls _ _ l1 a2 (wrap64 (x9_1 * (wrap64 (x10_2 + x11_2)))) t181 _ ?side1 ?side2 A10.out).mono ?_
        (case side1 => exact cB_ HR1 HB)
        (case side2 => exact HC1.out)
        rintro e w23 ⟨v182, rfl, ho0, hb⟩
        refine ⟨_, rfl, ?_⟩
        have HO183 := rL_ ho0 HB; replace BK179 := bB_ BK179 hb; replace HB := bS_ HB hb; (try clear hb); (try clear ho0)
        obtain ⟨Ao24, co24, eo24⟩ := Kd.R_slice HO183.out
        (first | subst eo24 | (injection eo24 with f1_ f2_ f3_; have f4_ := f1_.symm; have f5_ := f3_.symm; clear f1_ f2_ f3_; subst f4_; subst f5_))
        refine hK.out _ _ ⟨(blk_cell BK179.out 0).trans rfl, (blk_cell BK179.out 1).trans rfl, (blk_cell BK179.out 2).trans rfl, (blk_cell BK179.out 3).trans rfl⟩ (fun hHeld => ?_)
        clear hK K
        refine nS_ (some 34) ?_
        refine one_ (i := 5) (N := some 35) #[true, true, true, true, true, true, true, true, true, true, true, true, false, false, false] rfl rfl (one_of HT_.out (by kernel_rfl)) (by decide) (fun K hK => ?_)
        refine goes_ Try.func29 (by kernel_rfl) rfl #[.agg #[.int .i64 a0_0, .slice A0_1 l0_1.length c0_1, .slice A0_2 l0_2.length c0_2, .slice A0_3 l0_3.length c0_3], .slice Ao24 t181.length co24] (by rfl) rfl rfl (by (try simp only [List.map_toArray, List.map_cons, List.map_nil]); first | done | rfl | (simp only [List.length_drop, List.length_take]; rfl)) ?_
        with_reducible refine (spec_l15Cost.calls k2 a0_0 _ _ l0_1 _ _ l0_2 _ _ l0_3 _ _ t181 t184 _ ?side1 ?side2 ?side3 ?side4 ?side5 ?side6 ?side7 ?side8 A11.out).mono ?_
        (case side1 => exact cB_ HR0_1 HB)
        (case side2 => exact HC0_1.out)
        (case side3 => exact cB_ HR0_2 HB)
        (case side4 => exact HC0_2.out)
        (case side5 => exact cB_ HR0_3 HB)
        (case side6 => exact HC0_3.out)
        (case side7 => exact rD_ HO183)
        (case side8 => exact (Kd.R_reads' HO183.out).2.1)
        rintro e w25 ⟨rfl, hb⟩
        refine ⟨_, rfl, ?_⟩
        replace HO183 := rB_ HO183 hb; replace BK179 := bB_ BK179 hb; replace HB := bS_ HB hb; (try clear hb)
        refine hK.out _ _ ⟨(blk_cell BK179.out 0).trans rfl, (blk_cell BK179.out 1).trans rfl, (blk_cell BK179.out 2).trans rfl, (blk_cell BK179.out 3).trans rfl⟩ (fun hHeld => ?_)
        clear hK K
        refine nS_ (some 35) ?_
        refine one_ (i := 12) (N := some 42) #[true, true, true, true, true, true, true, true, true, true, true, true, true, false, false] rfl rfl (one_of HT_.out (by kernel_rfl)) (by decide) (fun K hK => ?_)
        refine goes_ Try.func35 (by kernel_rfl) rfl #[.slice A1 l1.length c1, .int .i64 a2, .int .i64 (wrap64 ((wrap64 (x9_1 * (wrap64 (x10_2 + x11_2)))) - x9_1))] (by rfl) rfl rfl (by (try simp only [List.map_toArray, List.map_cons, List.map_nil]); first | done | rfl | (simp only [List.length_drop, List.length_take]; rfl)) ?_
        with_reducible refine (spec_l15Moved.calls _ _ l1 a2 (wrap64 ((wrap64 (x9_1 * (wrap64 (x10_2 + x11_2)))) - x9_1)) t185 _ ?side1 ?side2 A12.out).mono ?_
        (case side1 => exact cB_ HR1 HB)
        (case side2 => exact HC1.out)
        rintro e w26 ⟨v186, rfl, ho0, hb⟩
        refine ⟨_, rfl, ?_⟩
        have HO187 := rL_ (rN_ ho0 HO183) HB
        replace HO183 := rE_ HO183 ho0 hb; replace BK179 := bB_ BK179 hb; replace HB := bS_ HB hb; (try clear hb); (try clear ho0)
        obtain ⟨Ao27, co27, eo27⟩ := Kd.R_slice HO187.out
        (first | subst eo27 | (injection eo27 with f1_ f2_ f3_; have f4_ := f1_.symm; have f5_ := f3_.symm; clear f1_ f2_ f3_; subst f4_; subst f5_))
        refine hK.out _ _ ⟨(blk_cell BK179.out 0).trans rfl, (blk_cell BK179.out 1).trans rfl, (blk_cell BK179.out 2).trans rfl, (blk_cell BK179.out 3).trans rfl⟩ (fun hHeld => ?_)
        clear hK K
        refine nS_ (some 42) ?_
        refine one_ (i := 13) (N := some 43) #[true, true, true, true, true, true, true, true, true, true, true, true, true, true, false] rfl rfl (one_of HT_.out (by kernel_rfl)) (by decide) (fun K hK => ?_)
        refine goes_ Try.func29 (by kernel_rfl) rfl #[.agg #[.int .i64 a0_0, .slice A0_1 l0_1.length c0_1, .slice A0_2 l0_2.length c0_2, .slice A0_3 l0_3.length c0_3], .slice Ao27 t185.length co27] (by rfl) rfl rfl (by (try simp only [List.map_toArray, List.map_cons, List.map_nil]); first | done | rfl | (simp only [List.length_drop, List.length_take]; rfl)) ?_
        with_reducible refine (spec_l15Cost.calls k2 a0_0 _ _ l0_1 _ _ l0_2 _ _ l0_3 _ _ t185 t188 _ ?side1 ?side2 ?side3 ?side4 ?side5 ?side6 ?side7 ?side8 A13.out).mono ?_
        (case side1 => exact cB_ HR0_1 HB)
        (case side2 => exact HC0_1.out)
        (case side3 => exact cB_ HR0_2 HB)
        (case side4 => exact HC0_2.out)
        (case side5 => exact cB_ HR0_3 HB)
        (case side6 => exact HC0_3.out)
        (case side7 => exact rD_ HO187)
        (case side8 => exact (Kd.R_reads' HO187.out).2.1)
        rintro e w28 ⟨rfl, hb⟩
        refine ⟨_, rfl, ?_⟩
        replace HO183 := rB_ HO183 hb; replace HO187 := rB_ HO187 hb; replace BK179 := bB_ BK179 hb; replace HB := bS_ HB hb; (try clear hb)
        refine hK.out _ _ ⟨(blk_cell BK179.out 0).trans rfl, (blk_cell BK179.out 1).trans rfl, (blk_cell BK179.out 2).trans rfl, (blk_cell BK179.out 3).trans rfl⟩ (fun hHeld => ?_)
        clear hK K
        refine nS_ (some 43) ?_
        refine pT_ 14 (some 44) #[true, true, true, true, true, true, true, true, true, true, true, true, true, true, true] HT_ ?_
        refine done_ (done_of HT_.out (by kernel_rfl)) ?_
        try go_wp2
        go_roundg k2
        case measure => have := HK1.out; have := HK2.out; omega
        case rel => exact ⟨(x10_2), (wrap64 (Int.tdiv x11_2 2)), (by first | rfl | (simp; done) | (simp [*]; done)), (by first | rfl | (simp; done) | (simp [*]; done)), H', ⟨by have := HK1.out; have := HK2.out; omega⟩, ⟨bT_ BK179⟩, ⟨sABelo_7⟩⟩
      ·rw [if_neg c9] at H
       have c9b0 : decide (0 < x11_2) = false := decide_eq_false c9
       clear c9; replace H := Option.bind_eq_some_iff.mp H
       obtain ⟨t189, A290, H⟩ := H
       replace H : ((spec_l15Cost.f k2 a0_0 l0_1 l0_2 l0_3 t189).bind fun t192 => (if t192 < x8_1 then (spec_l15Best.l0 k2 l1 a2 (wrap64 (x9_1 * x10_2)) t192 (wrap64 (x9_1 - 2)) a0_0 l0_1 l0_2 l0_3) else (spec_l15Best.l0 k2 l1 a2 x7_1 x8_1 (wrap64 (x9_1 - 2)) a0_0 l0_1 l0_2 l0_3))) = some r := H
       have A29 := Aside0.mk A290; clear A290; replace H := Option.bind_eq_some_iff.mp H
       obtain ⟨t192, A300, H⟩ := H
       replace H : (if t192 < x8_1 then (spec_l15Best.l0 k2 l1 a2 (wrap64 (x9_1 * x10_2)) t192 (wrap64 (x9_1 - 2)) a0_0 l0_1 l0_2 l0_3) else (spec_l15Best.l0 k2 l1 a2 x7_1 x8_1 (wrap64 (x9_1 - 2)) a0_0 l0_1 l0_2 l0_3)) = some r := H
       have A30 := Aside0.mk A300; clear A300
       by_cases c31 : t192 < x8_1
       ·rw [if_pos c31] at H
        have c31b0 := decide_eq_true c31
        clear c31; have H' := Aside0.mk H; clear H
        try go_wp2
        replace BK179 := Aside0.mk (blk_drew BK179.out)
        replace HB := Aside0.mk (below_drew1 HB.out)
        refine start_ (n := 9) (S := fun w' => w'.cell? ⟨gb179, 0, none⟩ = some (.int .i64 a0_0) ∧ w'.cell? ⟨gb179, 1, none⟩ = some (.slice A0_1 l0_1.length c0_1) ∧ w'.cell? ⟨gb179, 2, none⟩ = some (.slice A0_2 l0_2.length c0_2) ∧ w'.cell? ⟨gb179, 3, none⟩ = some (.slice A0_3 l0_3.length c0_3)) (ds := []) #[false, false, false, false, false, false, false, false, false] (by kernel_rfl) rfl rfl ⟨(blk_cell BK179.out 0).trans rfl, (blk_cell BK179.out 1).trans rfl, (blk_cell BK179.out 2).trans rfl, (blk_cell BK179.out 3).trans rfl⟩ (fun hHeld => ?_); refine with_tabW spec_l15Best.tab13 spec_l15Best.bits13 (fun HT_ HW_ => ?_)
        generalize wr.drew = w32 at BK179 HB hHeld ⊢
        refine pT_ 1 (some 49) #[false, true, false, false, false, false, false, false, false] HT_ ?_
        refine pT_ 2 (some 50) #[false, true, true, false, false, false, false, false, false] HT_ ?_
        refine pT_ 3 (some 51) #[false, true, true, true, false, false, false, false, false] HT_ ?_
        refine pT_ 4 (some 52) #[false, true, true, true, true, false, false, false, false] HT_ ?_
        refine pT_ 5 (some 53) #[false, true, true, true, true, true, false, false, false] HT_ ?_
        refine tT_ 0 (some 48) #[true, true, true, true, true, true, false, false, false] HT_ HW_ hHeld ?_ (hy := by rintro w' ⟨s0, s1, s2, s3⟩; go_simp; with_reducible rfl)
        refine one_ (i := 6) (N := some 54) #[true, true, true, true, true, true, true, false, false] rfl rfl (one_of HT_.out (by kernel_rfl)) (by decide) (fun K hK => ?_)
        refine goes_ Try.func35 (by kernel_rfl) rfl #[.slice A1 l1.length c1, .int .i64 a2, .int .i64 (wrap64 (x9_1 * x10_2))] (by rfl) rfl rfl (by (try simp only [List.map_toArray, List.map_cons, List.map_nil]); first | done | rfl | (simp only [List.length_drop, List.length_take]; rfl)) ?_
        with_reducible refine (spec_l15Moved.calls _ _ l1 a2 (wrap64 (x9_1 * x10_2)) t189 _ ?side1 ?side2 A29.out).mono ?_
        (case side1 => exact cB_ HR1 HB)
        (case side2 => exact HC1.out)
        rintro e w33 ⟨v190, rfl, ho0, hb⟩
        refine ⟨_, rfl, ?_⟩
        have HO191 := rL_ ho0 HB; replace BK179 := bB_ BK179 hb; replace HB := bS_ HB hb; (try clear hb); (try clear ho0)
        obtain ⟨Ao34, co34, eo34⟩ := Kd.R_slice HO191.out
        (first | subst eo34 | (injection eo34 with f1_ f2_ f3_; have f4_ := f1_.symm; have f5_ := f3_.symm; clear f1_ f2_ f3_; subst f4_; subst f5_))
        refine hK.out _ _ ⟨(blk_cell BK179.out 0).trans rfl, (blk_cell BK179.out 1).trans rfl, (blk_cell BK179.out 2).trans rfl, (blk_cell BK179.out 3).trans rfl⟩ (fun hHeld => ?_)
        clear hK K
        refine nS_ (some 54) ?_
        refine one_ (i := 7) (N := some 55) #[true, true, true, true, true, true, true, true, false] rfl rfl (one_of HT_.out (by kernel_rfl)) (by decide) (fun K hK => ?_)
        refine goes_ Try.func29 (by kernel_rfl) rfl #[.agg #[.int .i64 a0_0, .slice A0_1 l0_1.length c0_1, .slice A0_2 l0_2.length c0_2, .slice A0_3 l0_3.length c0_3], .slice Ao34 t189.length co34] (by rfl) rfl rfl (by (try simp only [List.map_toArray, List.map_cons, List.map_nil]); first | done | rfl | (simp only [List.length_drop, List.length_take]; rfl)) ?_
        with_reducible refine (spec_l15Cost.calls k2 a0_0 _ _ l0_1 _ _ l0_2 _ _ l0_3 _ _ t189 t192 _ ?side1 ?side2 ?side3 ?side4 ?side5 ?side6 ?side7 ?side8 A30.out).mono ?_
        (case side1 => exact cB_ HR0_1 HB)
        (case side2 => exact HC0_1.out)
        (case side3 => exact cB_ HR0_2 HB)
        (case side4 => exact HC0_2.out)
        (case side5 => exact cB_ HR0_3 HB)
        (case side6 => exact HC0_3.out)
        (case side7 => exact rD_ HO191)
        (case side8 => exact (Kd.R_reads' HO191.out).2.1)
        rintro e w35 ⟨rfl, hb⟩
        refine ⟨_, rfl, ?_⟩
        replace HO191 := rB_ HO191 hb; replace BK179 := bB_ BK179 hb; replace HB := bS_ HB hb; (try clear hb)
        refine hK.out _ _ ⟨(blk_cell BK179.out 0).trans rfl, (blk_cell BK179.out 1).trans rfl, (blk_cell BK179.out 2).trans rfl, (blk_cell BK179.out 3).trans rfl⟩ (fun hHeld => ?_)
        clear hK K
        refine nS_ (some 55) ?_
        refine pT_ 8 (some 13) #[true, true, true, true, true, true, true, true, true] HT_ ?_
        refine done_ (done_of HT_.out (by kernel_rfl)) ?_
        try go_wp2
        go_roundg k2
        case measure => have := HK1.out; have := HK2.out; omega
        case rel => exact ⟨(wrap64 (x9_1 * x10_2)), (t192), (wrap64 (x9_1 - 2)), (by first | rfl | (simp; done) | (simp [*]; done)), (by first | rfl | (simp; done) | (simp [*]; done)), (by first | rfl | (simp; done) | (simp [*]; done)), H', ⟨by have := HK1.out; have := HK2.out; omega⟩, ⟨bT_ BK179⟩, ⟨sABelo_7⟩⟩
       ·rw [if_neg c31] at H
        have c31b0 := decide_eq_false c31
        clear c31; have H' := Aside0.mk H; clear H
        try go_wp2
        replace BK179 := Aside0.mk (blk_drew BK179.out)
        replace HB := Aside0.mk (below_drew1 HB.out)
        refine start_ (n := 9) (S := fun w' => w'.cell? ⟨gb179, 0, none⟩ = some (.int .i64 a0_0) ∧ w'.cell? ⟨gb179, 1, none⟩ = some (.slice A0_1 l0_1.length c0_1) ∧ w'.cell? ⟨gb179, 2, none⟩ = some (.slice A0_2 l0_2.length c0_2) ∧ w'.cell? ⟨gb179, 3, none⟩ = some (.slice A0_3 l0_3.length c0_3)) (ds := []) #[false, false, false, false, false, false, false, false, false] (by kernel_rfl) rfl rfl ⟨(blk_cell BK179.out 0).trans rfl, (blk_cell BK179.out 1).trans rfl, (blk_cell BK179.out 2).trans rfl, (blk_cell BK179.out 3).trans rfl⟩ (fun hHeld => ?_); refine with_tabW spec_l15Best.tab13 spec_l15Best.bits13 (fun HT_ HW_ => ?_)
        generalize wr.drew = w36 at BK179 HB hHeld ⊢
        refine pT_ 1 (some 49) #[false, true, false, false, false, false, false, false, false] HT_ ?_
        refine pT_ 2 (some 50) #[false, true, true, false, false, false, false, false, false] HT_ ?_
        refine pT_ 3 (some 51) #[false, true, true, true, false, false, false, false, false] HT_ ?_
        refine pT_ 4 (some 52) #[false, true, true, true, true, false, false, false, false] HT_ ?_
        refine pT_ 5 (some 53) #[false, true, true, true, true, true, false, false, false] HT_ ?_
        refine tT_ 0 (some 48) #[true, true, true, true, true, true, false, false, false] HT_ HW_ hHeld ?_ (hy := by rintro w' ⟨s0, s1, s2, s3⟩; go_simp; with_reducible rfl)
        refine one_ (i := 6) (N := some 54) #[true, true, true, true, true, true, true, false, false] rfl rfl (one_of HT_.out (by kernel_rfl)) (by decide) (fun K hK => ?_)
        refine goes_ Try.func35 (by kernel_rfl) rfl #[.slice A1 l1.length c1, .int .i64 a2, .int .i64 (wrap64 (x9_1 * x10_2))] (by rfl) rfl rfl (by (try simp only [List.map_toArray, List.map_cons, List.map_nil]); first | done | rfl | (simp only [List.length_drop, List.length_take]; rfl)) ?_
        with_reducible refine (spec_l15Moved.calls _ _ l1 a2 (wrap64 (x9_1 * x10_2)) t189 _ ?side1 ?side2 A29.out).mono ?_
        (case side1 => exact cB_ HR1 HB)
        (case side2 => exact HC1.out)
        rintro e w37 ⟨v190, rfl, ho0, hb⟩
        refine ⟨_, rfl, ?_⟩
        have HO191 := rL_ ho0 HB; replace BK179 := bB_ BK179 hb; replace HB := bS_ HB hb; (try clear hb); (try clear ho0)
        obtain ⟨Ao38, co38, eo38⟩ := Kd.R_slice HO191.out
        (first | subst eo38 | (injection eo38 with f1_ f2_ f3_; have f4_ := f1_.symm; have f5_ := f3_.symm; clear f1_ f2_ f3_; subst f4_; subst f5_))
        refine hK.out _ _ ⟨(blk_cell BK179.out 0).trans rfl, (blk_cell BK179.out 1).trans rfl, (blk_cell BK179.out 2).trans rfl, (blk_cell BK179.out 3).trans rfl⟩ (fun hHeld => ?_)
        clear hK K
        refine nS_ (some 54) ?_
        refine one_ (i := 7) (N := some 55) #[true, true, true, true, true, true, true, true, false] rfl rfl (one_of HT_.out (by kernel_rfl)) (by decide) (fun K hK => ?_)
        refine goes_ Try.func29 (by kernel_rfl) rfl #[.agg #[.int .i64 a0_0, .slice A0_1 l0_1.length c0_1, .slice A0_2 l0_2.length c0_2, .slice A0_3 l0_3.length c0_3], .slice Ao38 t189.length co38] (by rfl) rfl rfl (by (try simp only [List.map_toArray, List.map_cons, List.map_nil]); first | done | rfl | (simp only [List.length_drop, List.length_take]; rfl)) ?_
        with_reducible refine (spec_l15Cost.calls k2 a0_0 _ _ l0_1 _ _ l0_2 _ _ l0_3 _ _ t189 t192 _ ?side1 ?side2 ?side3 ?side4 ?side5 ?side6 ?side7 ?side8 A30.out).mono ?_
        (case side1 => exact cB_ HR0_1 HB)
        (case side2 => exact HC0_1.out)
        (case side3 => exact cB_ HR0_2 HB)
        (case side4 => exact HC0_2.out)
        (case side5 => exact cB_ HR0_3 HB)
        (case side6 => exact HC0_3.out)
        (case side7 => exact rD_ HO191)
        (case side8 => exact (Kd.R_reads' HO191.out).2.1)
        rintro e w39 ⟨rfl, hb⟩
        refine ⟨_, rfl, ?_⟩
        replace HO191 := rB_ HO191 hb; replace BK179 := bB_ BK179 hb; replace HB := bS_ HB hb; (try clear hb)
        refine hK.out _ _ ⟨(blk_cell BK179.out 0).trans rfl, (blk_cell BK179.out 1).trans rfl, (blk_cell BK179.out 2).trans rfl, (blk_cell BK179.out 3).trans rfl⟩ (fun hHeld => ?_)
        clear hK K
        refine nS_ (some 55) ?_
        refine pT_ 8 (some 13) #[true, true, true, true, true, true, true, true, true] HT_ ?_
        refine done_ (done_of HT_.out (by kernel_rfl)) ?_
        try go_wp2
        go_roundg k2
        case measure => have := HK1.out; have := HK2.out; omega
        case rel => exact ⟨(x7_1), (x8_1), (wrap64 (x9_1 - 2)), (by first | rfl | (simp; done) | (simp [*]; done)), (by first | rfl | (simp; done) | (simp [*]; done)), (by first | rfl | (simp; done) | (simp [*]; done)), H', ⟨by have := HK1.out; have := HK2.out; omega⟩, ⟨bT_ BK179⟩, ⟨sABelo_7⟩⟩
   ·rw [if_neg c8] at H
    have c8b0 : decide ((-1) ≤ x9_1) = false := decide_eq_false c8
    clear c8
    obtain rfl := Option.some.inj H
    go_wp2
    go_ret
    exact ⟨by first | rfl | (simp [errW_none, errW_some] <;> rfl) | (simp [*, errW_none, errW_some] <;> rfl), sABelo_7⟩

end Go.Proofs.Ytcjhbmjimjbphaa.QFnDescends
