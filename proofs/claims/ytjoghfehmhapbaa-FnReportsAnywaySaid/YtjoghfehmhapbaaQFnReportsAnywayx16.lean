-- Written by a program of this session out of the printer's texts and contracts of its own.
import Derived.Test.YtjoghfehmhapbaaSq
import Derived.Test.YtjoghfehmhapbaaQFnReportsAnywayx0
import Derived.Test.YtjoghfehmhapbaaQFnReportsAnywayx9
namespace Go.Proofs.Ytjoghfehmhapbaa.QFnReportsAnyway
open Go.RowKit Go.Proofs.YtjoghfehmhapbaaW.PrintWords Go.Proofs.YtjoghfehmhapbaaW.PrintLast Go.Proofs.YtjoghfehmhapbaaW.PrintMore Go.Proofs.Ytjoghfehmhapbaa.Sq
attribute [local go_sem] max2_int min2_int max_two min_two max_three min_three max_four min_four   -- for this text's walks alone
set_option linter.unusedVariables false
set_option linter.unusedSimpArgs false
theorem sAKeep_16 {w W : World} {g : Nat} {row : Option Nat} (h : KeepBut w W g row := by repeat (first | (with_reducible first | exact Aside0.out (by assumption) | apply KeepBut.set_ | apply keep_drewN | apply keep_drew | apply keep_alloc | refine keep_far ?_ (Aside0.out (by assumption)) _) | exact Aside0.out (by assumption))) : KeepBut w W g row := h
theorem sAIsS99_16 {w0 W : World} {g : Nat} {f0 : List Int} {f1 : Int} (h : IsS99 w0 W g f0 f1 := by repeat (first | (with_reducible first | exact Aside0.out (by assumption) | apply IsS99.alloc | apply IsS99.drewN | apply IsS99.drew | apply IsS99.set_1 | refine IsS99.far ?_ (Aside0.out (by assumption)) _) | exact Aside0.out (by assumption))) : IsS99 w0 W g f0 f1 := h
theorem sABelo_16 {b : Nat} {w W : World} (h : Below b w W := by repeat (first | (with_reducible first | exact Aside0.out (by assumption) | apply below_alloc | apply pw_below_drewN | apply below_drew1 | refine below_set ?_ (IsS99.ge (Aside0.out (by assumption))) | refine below_set ?_ (Aside0.out (by assumption))) | exact Aside0.out (by assumption))) : Below b w W := h

/-! ### spec_l1Rd_size: function 91 -/
def spec_l1Rd_size.f (s0_0 : List Int) (s0_1 : Int) (a1 : Int) (a2 : Int) : Option (Int × Int) := if a1 = 0 then (none) else (if (wrap64 (1 + (wrap64 ((s0_0.length : Int) / a1)))) > a2 then ((spec_l1Rd_below.f s0_0 s0_1 a2).bind fun bt364 => (some (wrap64 (1 + bt364.1), bt364.2))) else ((spec_l1Rd_below.f s0_0 s0_1 (wrap64 (1 + (wrap64 ((s0_0.length : Int) / a1))))).bind fun bt366 => (some (wrap64 (1 + bt366.1), bt366.2))))
set_option maxHeartbeats 8000000 in
set_option maxRecDepth 100000 in
theorem spec_l1Rd_size.calls (g : Nat) (s0_0 : List Int) (s0_1 : Int) (a1 : Int) (a2 : Int) (r1 : Int) (r2 : Int) (w0 w : World) (hI : IsS99 w0 w g s0_0 s0_1) (hB : Below w0.heap.size w0 w) (h : spec_l1Rd_size.f s0_0 s0_1 a1 a2 = some (r1, r2)) :
  Calls Try.prog 91 #[.pointer (some ⟨g, 0, none⟩), .int .i64 a1, .int .i64 a2] w fun e w' => e = .returned (.int .i64 r1) ∧ IsS99 w0 w' g s0_0 r2 ∧ Below w0.heap.size w0 w' ∧ KeepBut w w' g none := by
 have HI0 := mk_ hI
 have HK := mk_ (KeepBut.refl w g none)
 have HL := mk_ hB.size; clear hI; have HW0 := mk_ hB.size; have HB := mk_ hB; clear hB
 have H : (if a1 = 0 then (none) else (if (wrap64 (1 + (wrap64 ((s0_0.length : Int) / a1)))) > a2 then ((spec_l1Rd_below.f s0_0 s0_1 a2).bind fun bt364 => (some (wrap64 (1 + bt364.1), bt364.2))) else ((spec_l1Rd_below.f s0_0 s0_1 (wrap64 (1 + (wrap64 ((s0_0.length : Int) / a1))))).bind fun bt366 => (some (wrap64 (1 + bt366.1), bt366.2))))) = some (r1, r2) := h
 clear h
 by_cases c4 : a1 = 0
 ·rw [if_pos c4] at H
  exact absurd H (by simp)
 ·rw [if_neg c4] at H
  have c4b0 := beq_eq_false_iff_ne.mpr c4
  have c4b1 := bne_iff_ne.mpr c4
  by_cases c5 : (wrap64 (1 + (wrap64 ((s0_0.length : Int) / a1)))) > a2
  ·rw [if_pos c5] at H
   have c5b0 : decide (a2 < (wrap64 (1 + (wrap64 ((s0_0.length : Int) / a1))))) = true := decide_eq_true c5
   clear c5; replace H := Option.bind_eq_some_iff.mp H
   obtain ⟨⟨t364, t365⟩, A60, H⟩ := H
   (try dsimp only at H)
   have A6 := mk_ A60; clear A60
   simp only [Option.some.injEq, Prod.mk.injEq] at H
   obtain ⟨rfl, rfl⟩ := H
   obtain ⟨ASz7_0, cSz7_0, HGz7, hgz7, HSz7_0⟩ := HI0.out
   have hcz7_0 := cellS99_0 HGz7; have hcz7_1 := cellS99_1 HGz7; have hfz7_1 := blk_frozen HGz7 1; clear HGz7 hgz7
   go_enter Try.func91, Try.ntmps91
   go_wp2_with (first | ((with_reducible refine gate_callee (f := 56) rfl ?_); refine gL_ (some 22) Try.func56 #[.pointer (some ⟨g, 0, none⟩), .int .i64 a2] ?_; (with_reducible refine (spec_l1Rd_below.calls g s0_0 s0_1 a2 t364 t365 w0 _ ?side1 ?side2 A6.out).mono ?_); (case side1 => exact sAIsS99_16); (case side2 => exact sABelo_16); rintro e w8 ⟨rfl, hi, hb, hk⟩; refine ⟨_, rfl, ?_⟩; replace HK := mk_ (KeepBut.trans (w := w) (row := none) sAKeep_16 hk (.inl rfl)); replace HB := mk_ (hb); replace HI0 := mk_ (hi); (try clear hb); (try clear hk); (try clear hi)))
   go_ret
   exact ⟨eW_, sAIsS99_16, sABelo_16, sAKeep_16⟩
  ·rw [if_neg c5] at H
   have c5b0 : decide (a2 < (wrap64 (1 + (wrap64 ((s0_0.length : Int) / a1))))) = false := decide_eq_false c5
   clear c5; replace H := Option.bind_eq_some_iff.mp H
   obtain ⟨⟨t366, t367⟩, A90, H⟩ := H
   (try dsimp only at H)
   have A9 := mk_ A90; clear A90
   simp only [Option.some.injEq, Prod.mk.injEq] at H
   obtain ⟨rfl, rfl⟩ := H
   obtain ⟨ASz10_0, cSz10_0, HGz10, hgz10, HSz10_0⟩ := HI0.out
   have hcz10_0 := cellS99_0 HGz10; have hcz10_1 := cellS99_1 HGz10; have hfz10_1 := blk_frozen HGz10 1; clear HGz10 hgz10
   go_enter Try.func91, Try.ntmps91
   go_wp2_with (first | ((with_reducible refine gate_callee (f := 56) rfl ?_); refine gL_ (some 22) Try.func56 #[.pointer (some ⟨g, 0, none⟩), .int .i64 (wrap64 (1 + (wrap64 ((s0_0.length : Int) / a1))))] ?_; (with_reducible refine (spec_l1Rd_below.calls g s0_0 s0_1 (wrap64 (1 + (wrap64 ((s0_0.length : Int) / a1)))) t366 t367 w0 _ ?side1 ?side2 A9.out).mono ?_); (case side1 => exact sAIsS99_16); (case side2 => exact sABelo_16); rintro e w11 ⟨rfl, hi, hb, hk⟩; refine ⟨_, rfl, ?_⟩; replace HK := mk_ (KeepBut.trans (w := w) (row := none) sAKeep_16 hk (.inl rfl)); replace HB := mk_ (hb); replace HI0 := mk_ (hi); (try clear hb); (try clear hk); (try clear hi)))
   go_ret
   exact ⟨eW_, sAIsS99_16, sABelo_16, sAKeep_16⟩

/-! ### spec_l1Rd_suite: function 76 -/
mutual
def spec_l1Rd_suite.l0 : Nat → Int → Int → List Int → Int → List Int → Option ((List (S39)) × List Int × Int)
 | 0, _, _, _, _, _ => none
 | k + 1, x4, x5, x1000, x1001, x370001 => if x5 < x4 then ((spec_l1Rd_below.f x1000 x1001 3).bind fun bt372 => (if x370001.length < 17592186044416 then (spec_l1Rd_suite.l0 k x4 (wrap64 (x5 + 1)) x1000 bt372.2 (x370001 ++ [wrap64 (1 + bt372.1)])) else (none))) else ((spec_l1Rd_size.f x1000 x1001 5 14).bind fun bt377 => (spec_l1Rd_suite.l1 k x4 bt377.1 0 x1000 bt377.2 ([] : List (S39)) x370001))
def spec_l1Rd_suite.l1 : Nat → Int → Int → Int → List Int → Int → List (S39) → List Int → Option ((List (S39)) × List Int × Int)
 | 0, _, _, _, _, _, _, _ => none
 | k + 1, x4, x6, x7, x1000, x1001, x370000, x370001 => if x7 < x6 then ((spec_l1Rd_below.f x1000 x1001 x4).bind fun bt379 => ((spec_l1Rd_below.f x1000 bt379.2 3).bind fun bt381 => (spec_l1Rd_suite.l2 k x4 x6 x7 1 x1000 bt381.2 x370000 x370001 ([] : List Int) (wrap64 (1 + bt379.1)) 0 (wrap64 (1 + bt381.1))))) else (some (x370000, x370001, x1001))
def spec_l1Rd_suite.l2 : Nat → Int → Int → Int → Int → List Int → Int → List (S39) → List Int → List Int → Int → Int → Int → Option ((List (S39)) × List Int × Int)
 | 0, _, _, _, _, _, _, _, _, _, _, _, _ => none
 | k + 1, x4, x6, x7, x9, x1000, x1001, x370000, x370001, x384000, x384001, x384002, x384003 => if x9 ≤ x7 then ((spec_l1Rd_once.f x1000 x1001 3).bind fun bt384 => (if bt384.1 = true then (if x384000.length < 17592186044416 then (spec_l1Rd_suite.l2 k x4 x6 x7 (wrap64 (x9 + 1)) x1000 bt384.2 x370000 x370001 (x384000 ++ [x9]) x384001 x384002 x384003) else (none)) else (spec_l1Rd_suite.l2 k x4 x6 x7 (wrap64 (x9 + 1)) x1000 bt384.2 x370000 x370001 x384000 x384001 x384002 x384003))) else ((spec_l1Rd_once.f x1000 x1001 2).bind fun bt389 => (if bt389.1 = true then ((spec_l1Rd_below.f x1000 bt389.2 50).bind fun bt391 => (if x370000.length < 2932031007402 then (spec_l1Rd_suite.l1 k x4 x6 (wrap64 (x7 + 1)) x1000 bt391.2 (x370000 ++ [(⟨x384000, x384001, wrap64 (1 + bt391.1), x384003⟩ : S39)]) x370001) else (none))) else (if x370000.length < 2932031007402 then (spec_l1Rd_suite.l1 k x4 x6 (wrap64 (x7 + 1)) x1000 bt389.2 (x370000 ++ [(⟨x384000, x384001, x384002, x384003⟩ : S39)]) x370001) else (none))))
end
def spec_l1Rd_suite.f (k : Nat) (s0_0 : List Int) (s0_1 : Int) : Option ((List (S39)) × List Int × Int) := (spec_l1Rd_below.f s0_0 s0_1 3).bind fun bt370 => (spec_l1Rd_suite.l0 k (wrap64 (1 + bt370.1)) 0 s0_0 bt370.2 ([] : List Int))
theorem spec_l1Rd_suite.mono_l : ∀ k, (∀ y0 y1 y2 y3 y4, LeO (spec_l1Rd_suite.l0 k y0 y1 y2 y3 y4) (spec_l1Rd_suite.l0 (k + 1) y0 y1 y2 y3 y4)) ∧ (∀ y0 y1 y2 y3 y4 y5 y6, LeO (spec_l1Rd_suite.l1 k y0 y1 y2 y3 y4 y5 y6) (spec_l1Rd_suite.l1 (k + 1) y0 y1 y2 y3 y4 y5 y6)) ∧ (∀ y0 y1 y2 y3 y4 y5 y6 y7 y8 y9 y10 y11, LeO (spec_l1Rd_suite.l2 k y0 y1 y2 y3 y4 y5 y6 y7 y8 y9 y10 y11) (spec_l1Rd_suite.l2 (k + 1) y0 y1 y2 y3 y4 y5 y6 y7 y8 y9 y10 y11))
 | 0 => ⟨fun _ _ _ _ _ r h => by simp [spec_l1Rd_suite.l0] at h, fun _ _ _ _ _ _ _ r h => by simp [spec_l1Rd_suite.l1] at h, fun _ _ _ _ _ _ _ _ _ _ _ _ r h => by simp [spec_l1Rd_suite.l2] at h⟩
 | k + 1 => by
  obtain ⟨ih0, ih1, ih2⟩ := spec_l1Rd_suite.mono_l k
  refine ⟨?_, ?_, ?_⟩
  intro y0 y1 y2 y3 y4; unfold spec_l1Rd_suite.l0; rotate_left
  intro y0 y1 y2 y3 y4 y5 y6; unfold spec_l1Rd_suite.l1; rotate_left
  intro y0 y1 y2 y3 y4 y5 y6 y7 y8 y9 y10 y11; unfold spec_l1Rd_suite.l2; rotate_left
  all_goals repeat' first
  | (with_reducible exact ih0 _ _ _ _ _)
  | (with_reducible exact ih1 _ _ _ _ _ _ _)
  | (with_reducible exact ih2 _ _ _ _ _ _ _ _ _ _ _ _)
  | (with_reducible exact LeO.refl _)
  | (with_reducible exact LeO.none _)
  | (with_reducible refine LeO.ite ?_ ?_)
  | (with_reducible refine LeO.bind ?_ (fun _ => ?_))
  | exact ih0 _ _ _ _ _
  | exact ih1 _ _ _ _ _ _ _
  | exact ih2 _ _ _ _ _ _ _ _ _ _ _ _
  | exact LeO.none _
  | refine LeO.ite ?_ ?_
  | refine LeO.bind ?_ (fun _ => ?_)
theorem spec_l1Rd_suite.mono : ∀ a0 a1 k, LeO (spec_l1Rd_suite.f k a0 a1) (spec_l1Rd_suite.f (k + 1) a0 a1) := by
 intro a0 a1 k
 obtain ⟨ih0, ih1, ih2⟩ := spec_l1Rd_suite.mono_l k
 unfold spec_l1Rd_suite.f
 repeat' first
   | (with_reducible exact ih0 _ _ _ _ _)
   | (with_reducible exact ih1 _ _ _ _ _ _ _)
   | (with_reducible exact ih2 _ _ _ _ _ _ _ _ _ _ _ _)
   | (with_reducible exact LeO.refl _)
   | (with_reducible exact LeO.none _)
   | (with_reducible refine LeO.ite ?_ ?_)
   | (with_reducible refine LeO.bind ?_ (fun _ => ?_))
   | exact ih0 _ _ _ _ _
   | exact ih1 _ _ _ _ _ _ _
   | exact ih2 _ _ _ _ _ _ _ _ _ _ _ _
   | exact LeO.none _
   | refine LeO.ite ?_ ?_
   | refine LeO.bind ?_ (fun _ => ?_)
def spec_l1Rd_suite.T6 : Bool × List (List Nat × List Nat) := (true, [([], []), ([0], [0]), ([], []), ([2], [2]), ([3], [3]), ([4], [4]), ([1, 5, 3], [1, 5]), ([0, 1, 2, 3, 4, 5, 6], []), ([7, 6, 6, 0, 1, 2, 3, 4, 5, 6], [6, 7])])
def spec_l1Rd_suite.B6 : List Nat := [0, 1, 0, 4, 12, 28, 63, 127, 255]
theorem spec_l1Rd_suite.tab6 : rtab .any (opsOf Try.f76 6) = spec_l1Rd_suite.T6 := by kernel_rfl
theorem spec_l1Rd_suite.bits6 : waitsOk spec_l1Rd_suite.T6.2 spec_l1Rd_suite.B6 = true := by kernel_rfl
set_option maxHeartbeats 8000000 in
set_option maxRecDepth 100000 in
theorem spec_l1Rd_suite.calls (k : Nat) (g : Nat) (s0_0 : List Int) (s0_1 : Int) (r1 : List (S39)) (r2 : List Int) (r3 : Int) (w0 w : World) (hI : IsS99 w0 w g s0_0 s0_1) (hB : Below w0.heap.size w0 w) (h : spec_l1Rd_suite.f k s0_0 s0_1 = some (r1, r2, r3)) :
  Calls Try.prog 76 #[.pointer (some ⟨g, 0, none⟩)] w fun e w' => ∃ v0_ v1_ : Value, e = .returned (.agg #[v0_, v1_]) ∧ Kd.S k39 39 w' w.heap.size (fun k_ => some k_ ≠ (v1_ : Value).ownBlock) v0_ r1 ∧ Kd.R (Kd.int .i64) 2 w' w.heap.size (fun _ => True) v1_ r2 ∧ IsS99 w0 w' g s0_0 r3 ∧ Below w0.heap.size w0 w' ∧ KeepBut w w' g none := by
 have hu27 := Try.underlying27; have hu39 := Try.underlying39; have HI0 := mk_ hI
 have HK := mk_ (KeepBut.refl w g none)
 have HL := mk_ hB.size; clear hI; have HW0 := mk_ hB.size; have HB := mk_ hB; clear hB
 have H : ((spec_l1Rd_below.f s0_0 s0_1 3).bind fun bt370 => (spec_l1Rd_suite.l0 k (wrap64 (1 + bt370.1)) 0 s0_0 bt370.2 ([] : List Int))) = some (r1, r2, r3) := h
 clear h; replace H := Option.bind_eq_some_iff.mp H
 obtain ⟨⟨t370, t371⟩, A20, H⟩ := H
 (try dsimp only at H)
 have A2 := mk_ A20; clear A20; have H' := mk_ H; clear H
 go_enter Try.func76, Try.ntmps76
 go_wp2_with (first | ((with_reducible refine gate_dst (N := 2) rfl ?_); refine box_event ?hg (N := 2) ?hd (cs := #[.slice none 0 0, .slice none 0 0]) (t := 27) ?hr ?_; (case hd => rfl); (case hg => rfl); (case hr => first | (go_simp; done) | (go_simp; rfl)); intro gb368 hg w3 hbox hb; replace HB := mk_ (below_step sABelo_16 hb); have BK368 := mk_ (hbox); have GW368 := mk_ ((by rw [hg]; exact (keep_size (w := w) (g := g) (row := none) sAKeep_16) : w.heap.size ≤ gb368)); have GE368 := mk_ ((Nat.le_trans HW0.out (by rw [hg]; exact (keep_size (w := w) (g := g) (row := none) sAKeep_16) : w.heap.size ≤ gb368) : w0.heap.size ≤ gb368)); replace HK := mk_ (KeepBut.trans (w := w) (row := none) sAKeep_16 (KeepBut.of_below hb g none) (.inl rfl)); have NB0_368 := mk_ ((by rw [hg]; exact Nat.ne_of_lt (IsS99.lt (show IsS99 w0 _ g s0_0 s0_1 from sAIsS99_16)) : g ≠ gb368)); have NB368_0 := mk_ ((by rw [hg]; exact Nat.ne_of_gt (IsS99.lt (show IsS99 w0 _ g s0_0 s0_1 from sAIsS99_16)) : gb368 ≠ g)); replace HI0 := mk_ (IsS99.below sAIsS99_16 hb); clear hb hbox hg) | ((with_reducible refine gate_dst (N := 3) rfl ?_); refine box_event ?hg (N := 3) ?hd (cs := #[.slice none 0 0, .slice none 0 0]) (t := 27) ?hr ?_; (case hd => rfl); (case hg => rfl); (case hr => first | (go_simp; done) | (go_simp; rfl)); intro gb369 hg w4 hbox hb; replace HB := mk_ (below_step sABelo_16 hb); have BK369 := mk_ (hbox); have GW369 := mk_ ((by rw [hg]; exact (keep_size (w := w) (g := g) (row := none) sAKeep_16) : w.heap.size ≤ gb369)); have GE369 := mk_ ((Nat.le_trans HW0.out (by rw [hg]; exact (keep_size (w := w) (g := g) (row := none) sAKeep_16) : w.heap.size ≤ gb369) : w0.heap.size ≤ gb369)); replace HK := mk_ (KeepBut.trans (w := w) (row := none) sAKeep_16 (KeepBut.of_below hb g none) (.inl rfl)); have NB368_369 := nL_ BK368 hg; have NB369_368 := nG_ BK368 hg; replace BK368 := bB_ BK368 hb; have NB0_369 := mk_ ((by rw [hg]; exact Nat.ne_of_lt (IsS99.lt (show IsS99 w0 _ g s0_0 s0_1 from sAIsS99_16)) : g ≠ gb369)); have NB369_0 := mk_ ((by rw [hg]; exact Nat.ne_of_gt (IsS99.lt (show IsS99 w0 _ g s0_0 s0_1 from sAIsS99_16)) : gb369 ≠ g)); replace HI0 := mk_ (IsS99.below sAIsS99_16 hb); clear hb hbox hg; have hnb5 := NB369_368.out; have hnc5 := NB368_369.out; have hnb6 := NB369_0.out; have hnc6 := NB0_369.out; obtain ⟨hcz7_0, hcz7_1, hfz7_0, hfz7_1⟩ := cf2_ BK369) | ((with_reducible refine gate_callee (f := 56) rfl ?_); refine gL_ (some 12) Try.func56 #[.pointer (some ⟨g, 0, none⟩), .int .i64 3] ?_; (with_reducible refine (spec_l1Rd_below.calls g s0_0 s0_1 3 t370 t371 w0 _ ?side1 ?side2 A2.out).mono ?_); (case side1 => exact sAIsS99_16); (case side2 => exact sABelo_16); rintro e w8 ⟨rfl, hi, hb, hk⟩; refine ⟨_, rfl, ?_⟩; replace BK368 := kB_ hk (bF_ BK368 NB368_369) NB368_0; replace BK369 := kB_ hk (bP_ BK369) NB369_0; replace HK := mk_ (KeepBut.trans (w := w) (row := none) sAKeep_16 hk (.inl rfl)); replace HB := mk_ (hb); replace HI0 := mk_ (hi); (try clear hb); (try clear hk); (try clear hi)))
 go_loopg [5] k (fun kq v5 w' => ∃ (x5_1 : Int) (x1001_1 : Int) (x370001_1 : List Int) (u370001 : Value), v5 = .int .i64 x5_1 ∧ Aside0 (spec_l1Rd_suite.l0 kq (wrap64 (1 + t370)) x5_1 s0_0 x1001_1 x370001_1 = some (r1, r2, r3)) ∧ Aside0 (kq ≤ k) ∧ Aside0 (Kd.R (Kd.int .i64) 2 w' w.heap.size (fun _ => True) u370001 x370001_1) ∧ Aside0 (w'.heap[gb368]? = some (.cells #[(.slice none 0 0), (.slice none 0 0)] 27 (0, 0))) ∧ Aside0 (w'.heap[gb369]? = some (.cells #[(.slice none 0 0), u370001] 27 (0, 0))) ∧ Aside0 (IsS99 w0 w' g s0_0 x1001_1) ∧ Aside0 (KeepBut w w' g none) ∧ Aside0 (Below w0.heap.size w0 w'))
 case atStart => exact ⟨(0), (t371), (([] : List Int)), (.slice none 0 0), eS_, H', ⟨Nat.le_refl _⟩, ⟨by first | exact Kd.R_nil _ _ _ _ _ | exact Kd.N_nil _ _ _ _ _ | exact Kd.V_nil _ _ _ _ _ | exact Kd.Q_nil _ _ _ _ _ | exact Kd.S_nil _ _ _ _ _⟩, ⟨bT_ BK368⟩, ⟨bT_ BK369⟩, ⟨sAIsS99_16⟩, ⟨sAKeep_16⟩, ⟨sABelo_16⟩⟩
 case round =>
  clear H'; (try clear hcz7_0); (try clear hcz7_1); (try clear hfz7_0); (try clear hfz7_1)
  obtain ⟨x5_1, x1001_1, x370001_1, u370001, rfl, HA, HK1, HO_370001, BK368, BK369, HI0, HK, HB⟩ := hrel
  cases gk with
  | zero => exact absurd HA.out (by simp [spec_l1Rd_suite.l0])
  | succ k1 =>
   have H := HA.out; clear HA
   simp only [spec_l1Rd_suite.l0] at H
   by_cases c9 : x5_1 < (wrap64 (1 + t370))
   ·rw [if_pos c9] at H
    have c9b0 := decide_eq_true c9
    clear c9; replace H := Option.bind_eq_some_iff.mp H
    obtain ⟨⟨t372, t373⟩, A100, H⟩ := H
    (try dsimp only at H)
    have A10 := mk_ A100; clear A100
    obtain ⟨c11, H⟩ := ifS_ H
    have LMc11 := mk_ c11; clear c11
    obtain ⟨y374, hy374⟩ : ∃ y_ : List Int, y_ = (x370001_1 ++ [wrap64 (1 + t372)]) := ⟨_, rfl⟩
    replace H : (spec_l1Rd_suite.l0 k1 (wrap64 (1 + t370)) (wrap64 (x5_1 + 1)) s0_0 t373 y374) = some (r1, r2, r3) := by first | (rw [hy374]; with_reducible exact H) | (have H2_ := (Option.bind_some _ _).symm.trans H; rw [hy374]; with_reducible exact H2_) | (have H2_ := (Option.bind_some _ _).symm.trans H; with_reducible exact H2_) | with_reducible exact H | (rw [hy374]; exact H) | exact H
    have Ny374 := mk_ hy374; clear hy374; have H' := mk_ H; clear H
    try go_wp2
    replace HO_370001 := mk_ (Kd.R_drew HO_370001.out)
    replace BK368 := mk_ (blk_drew BK368.out)
    replace BK369 := mk_ (blk_drew BK369.out)
    replace HI0 := mk_ (IsS99.drew HI0.out)
    replace HK := mk_ (keep_drew HK.out)
    replace HB := mk_ (below_drew1 HB.out)
    refine start_ (n := 9) (S := fun w' => w'.cell? ⟨gb369, 0, none⟩ = some (.slice none 0 0) ∧ w'.cell? ⟨gb369, 1, none⟩ = some (u370001)) (ds := [8]) (uu 0 9) (by kernel_rfl) rfl rfl ⟨(blk_cell BK369.out 0).trans rfl, (blk_cell BK369.out 1).trans rfl⟩ (fun hHeld => ?_); refine with_tabW spec_l1Rd_suite.tab6 spec_l1Rd_suite.bits6 (fun HT_ HW_ => ?_)
    generalize wr.drew = w12 at HO_370001 BK368 BK369 HI0 HK HB hHeld ⊢
    refine pT_ 0 (some 19) (uu 1 8) HT_ ?_
    refine pT_ 2 (some 21) #[true, false, true, false, false, false, false, false, false] HT_ ?_
    refine tT_ 1 (some 20) (uu 3 6) HT_ HW_ hHeld ?_ (hy := by rintro w' ⟨s0, s1⟩; go_simp; with_reducible rfl)
    refine one_ (i := 3) (N := some 22) (uu 4 5) rfl rfl (one_of HT_.out (by kernel_rfl)) (by decide) (fun K hK => ?_)
    refine goes_ Try.func56 (by kernel_rfl) rfl #[.pointer (some ⟨g, 0, none⟩), .int .i64 3] (by rfl) rfl rfl (by (try simp only [List.map_toArray, List.map_cons, List.map_nil]); first | done | rfl | (simp only [List.length_drop, List.length_take]; rfl)) ?_
    with_reducible refine (spec_l1Rd_below.calls g s0_0 x1001_1 3 t372 t373 w0 _ ?side1 ?side2 A10.out).mono ?_
    (case side1 => exact sAIsS99_16)
    (case side2 => exact sABelo_16)
    rintro e w13 ⟨rfl, hi, hb, hk⟩
    refine ⟨_, rfl, ?_⟩
    replace HO_370001 := mk_ (Kd.R_mono (Kd.R_keep (IsS99.apart (show IsS99 w0 _ g s0_0 x1001_1 from sAIsS99_16) (rT_ HO_370001) (by decide)) hk (fun _ h => h.2)) (fun _ h => h.1))
    replace BK368 := kB_ hk (bT_ BK368) NB368_0
    replace BK369 := kB_ hk (bT_ BK369) NB369_0
    replace HK := mk_ (KeepBut.trans (w := w) (row := none) sAKeep_16 hk (.inl rfl))
    replace HB := mk_ (hb)
    replace HI0 := mk_ (hi)
    (try clear hb); (try clear hk); (try clear hi)
    refine hK.out _ _ ⟨(blk_cell BK369.out 0).trans rfl, (blk_cell BK369.out 1).trans rfl⟩ (fun hHeld => ?_)
    clear hK K
    refine nS_ (some 22) ?_
    refine pT_ 4 (some 23) (uu 5 4) HT_ ?_
    refine one_ (i := 5) (N := some 24) (uu 6 3) rfl rfl (one_of HT_.out (by kernel_rfl)) (by decide) (fun K hK => ?_)
    refine value_ (w1 := ?_) (v := ?_) (by rfl) rfl ?_ ?_
    rotate_left 2
    ·go_simp
     constructor
     ·rfl
     ·rfl
    refine hK.out _ _ ⟨(blk_cell (blk_alloc BK369.out _) 0).trans rfl, (blk_cell (blk_alloc BK369.out _) 1).trans rfl⟩ (fun hHeld => ?_)
    clear hK K
    refine nS_ (some 24) ?_
    refine one_ (i := 6) (N := some 25) (uu 7 2) rfl rfl (one_of HT_.out (by kernel_rfl)) (by decide) (fun K hK => ?_)
    refine Kd.R_append_step (Kd.int .i64) w.heap.size (by rfl) (.tmp 20) (.tmp 24) 25 2 (.int .i64 0) 8 rfl Try.underlying25 info2 rfl (by decide) (by omega) u370001 x370001_1 (wrap64 (1 + t372)) [.int .i64 (wrap64 (1 + t372))] (fun _ => True) (fun _ => False) rfl rfl ?aP (fun _ hk => hk.elim) ?aF ?aO (Below.refl _ _) ?aS ?aL ?_
    (case aP => exact rfl)
    (case aF => exact (fun _ _ => trivial))
    (case aO => exact (rT_ HO_370001))
    (case aS => exact (keep_size (w := w) (g := g) (row := none) sAKeep_16))
    (case aL => have := LMc11.out; omega)
    intro v375 w14 ho hb hg hat
    rw [← Ny374.out] at ho
    replace BK368 := mk_ (blk_grown (bT_ BK368) hg (Kd.R_ne HO_370001.out BK368.out (by decide)))
    replace BK369 := mk_ (blk_grown (bT_ BK369) hg (Kd.R_ne HO_370001.out BK369.out (by decide)))
    replace HB := mk_ (below_weaken sABelo_16 HL.out hb)
    replace HI0 := mk_ (IsS99.grown sAIsS99_16 hg (IsS99.own_ne HI0.out HO_370001.out (by decide)))
    replace HK := mk_ (KeepBut.trans (w := w) (row := none) sAKeep_16 (KeepBut.of_grown hg g) (Kd.R_base2 HO_370001.out))
    have HO376 := mk_ (ho)
    clear HO_370001 ho hb hg hat
    obtain ⟨Ao15, co15, eo15⟩ := Kd.R_slice HO376.out
    (first | subst eo15 | (injection eo15 with f1_ f2_ f3_; have f4_ := f1_.symm; have f5_ := f3_.symm; clear f1_ f2_ f3_; subst f4_; subst f5_))
    refine hK.out _ _ ⟨(blk_cell BK369.out 0).trans rfl, (blk_cell BK369.out 1).trans rfl⟩ (fun hHeld => ?_)
    clear hK K
    refine nS_ (some 25) ?_
    refine pT_ 7 (some 26) (uu 8 1) HT_ ?_
    refine last_ (i := 8) (N := none) (uu 9 0) rfl rfl (one_of HT_.out (by kernel_rfl)) (by decide) (fun K hK => ?_)
    have hs16 : w14.cell? ⟨gb369, 1, none⟩ = some (u370001) := (blk_cell BK369.out 1).trans rfl
    have hfs16 := blk_frozen BK369.out 1; have hns16_0 := NB368_369.out; have hms16_0 := NB369_368.out
    refine skip_ (w1 := ?_) (by rfl) rfl ?_ ?_
    rotate_left
    ·go_simp
     rfl
    refine hK.out _ _ ?_
    clear hK K
    refine done_ (done_of HT_.out (by kernel_rfl)) ?_
    try go_wp2
    go_roundg k1
    case measure => have := HK1.out; omega
    case rel => exact ⟨(wrap64 (x5_1 + 1)), (t373), (y374), (.slice Ao15 y374.length co15), eS_, H', ⟨by have := HK1.out; omega⟩, ⟨rFM_ HO376 BK369⟩, ⟨bF_ BK368 NB368_369⟩, ⟨bP_ BK369⟩, ⟨sAIsS99_16⟩, ⟨sAKeep_16⟩, ⟨sABelo_16⟩⟩
   ·rw [if_neg c9] at H
    have c9b0 := decide_eq_false c9
    clear c9; replace H := Option.bind_eq_some_iff.mp H
    obtain ⟨⟨t377, t378⟩, A170, H⟩ := H
    (try dsimp only at H)
    have A17 := mk_ A170; clear A170; have H' := mk_ H; clear H
    go_wp2_with (first | ((with_reducible refine gate_callee (f := 91) rfl ?_); refine gL_ (some 28) Try.func91 #[.pointer (some ⟨g, 0, none⟩), .int .i64 5, .int .i64 14] ?_; (with_reducible refine (spec_l1Rd_size.calls g s0_0 x1001_1 5 14 t377 t378 w0 _ ?side1 ?side2 A17.out).mono ?_); (case side1 => exact sAIsS99_16); (case side2 => exact sABelo_16); rintro e w18 ⟨rfl, hi, hb, hk⟩; refine ⟨_, rfl, ?_⟩; replace HO_370001 := mk_ (Kd.R_mono (Kd.R_keep (IsS99.apart (show IsS99 w0 _ g s0_0 x1001_1 from sAIsS99_16) (rT_ HO_370001) (by decide)) hk (fun _ h => h.2)) (fun _ h => h.1)); replace BK368 := kB_ hk (bT_ BK368) NB368_0; replace BK369 := kB_ hk (bT_ BK369) NB369_0; replace HK := mk_ (KeepBut.trans (w := w) (row := none) sAKeep_16 hk (.inl rfl)); replace HB := mk_ (hb); replace HI0 := mk_ (hi); (try clear hb); (try clear hk); (try clear hi)))
    go_loopg [7] k1 (fun kq v7 w' => ∃ (x7_2 : Int) (x1001_2 : Int) (x370000_2 : List (S39)) (u370000 : Value), v7 = .int .i64 x7_2 ∧ Aside0 (spec_l1Rd_suite.l1 kq (wrap64 (1 + t370)) t377 x7_2 s0_0 x1001_2 x370000_2 x370001_1 = some (r1, r2, r3)) ∧ Aside0 (kq ≤ k1) ∧ Aside0 (Kd.S k39 39 w' w.heap.size (fun k_ => some k_ ≠ (u370001 : Value).ownBlock) u370000 x370000_2) ∧ Aside0 (Kd.R (Kd.int .i64) 2 w' w.heap.size (fun _ => True) u370001 x370001_1) ∧ Aside0 (w'.heap[gb368]? = some (.cells #[(.slice none 0 0), (.slice none 0 0)] 27 (0, 0))) ∧ Aside0 (w'.heap[gb369]? = some (.cells #[u370000, u370001] 27 (0, 0))) ∧ Aside0 (IsS99 w0 w' g s0_0 x1001_2) ∧ Aside0 (KeepBut w w' g none) ∧ Aside0 (Below w0.heap.size w0 w'))
    case atStart => exact ⟨(0), (t378), (([] : List (S39))), (.slice none 0 0), eS_, H', ⟨Nat.le_refl _⟩, ⟨by first | exact Kd.S_nil _ _ _ _ _ | exact Kd.N_nil _ _ _ _ _ | exact Kd.V_nil _ _ _ _ _ | exact Kd.Q_nil _ _ _ _ _ | exact Kd.R_nil _ _ _ _ _⟩, ⟨rT_ HO_370001⟩, ⟨bT_ BK368⟩, ⟨bT_ BK369⟩, ⟨sAIsS99_16⟩, ⟨sAKeep_16⟩, ⟨sABelo_16⟩⟩
    case round =>
     clear H'; (try clear c9); (try clear c9b0); (try clear hcz7_0); (try clear hcz7_1); (try clear hfz7_0); (try clear hfz7_1)
     obtain ⟨x7_2, x1001_2, x370000_2, u370000, rfl, HA, HK2, HO_370000, HO_370001, BK368, BK369, HI0, HK, HB⟩ := hrel
     cases gk with
     | zero => exact absurd HA.out (by simp [spec_l1Rd_suite.l1])
     | succ k2 =>
      have H := HA.out; clear HA
      simp only [spec_l1Rd_suite.l1] at H
      by_cases c19 : x7_2 < t377
      ·rw [if_pos c19] at H
       have c19b0 := decide_eq_true c19
       clear c19; replace H := Option.bind_eq_some_iff.mp H
       obtain ⟨⟨t379, t380⟩, A200, H⟩ := H
       (try dsimp only at H)
       have A20 := mk_ A200; clear A200; replace H := Option.bind_eq_some_iff.mp H
       obtain ⟨⟨t381, t382⟩, A210, H⟩ := H
       (try dsimp only at H)
       have A21 := mk_ A210; clear A210; have H' := mk_ H; clear H
       go_wp2_with (first | ((with_reducible refine gate_callee (f := 56) rfl ?_); refine gL_ (some 36) Try.func56 #[.pointer (some ⟨g, 0, none⟩), .int .i64 (wrap64 (1 + t370))] ?_; (with_reducible refine (spec_l1Rd_below.calls g s0_0 x1001_2 (wrap64 (1 + t370)) t379 t380 w0 _ ?side1 ?side2 A20.out).mono ?_); (case side1 => exact sAIsS99_16); (case side2 => exact sABelo_16); rintro e w22 ⟨rfl, hi, hb, hk⟩; refine ⟨_, rfl, ?_⟩; replace HO_370000 := mk_ (Kd.S_mono (Kd.S_keep (IsS99.apartS (show IsS99 w0 _ g s0_0 x1001_2 from sAIsS99_16) (sT_ HO_370000) (by decide)) hk (fun _ h => h.2)) (fun _ h => h.1)); replace HO_370001 := mk_ (Kd.R_mono (Kd.R_keep (IsS99.apart (show IsS99 w0 _ g s0_0 x1001_2 from sAIsS99_16) (rT_ HO_370001) (by decide)) hk (fun _ h => h.2)) (fun _ h => h.1)); replace BK368 := kB_ hk (bT_ BK368) NB368_0; replace BK369 := kB_ hk (bT_ BK369) NB369_0; replace HK := mk_ (KeepBut.trans (w := w) (row := none) sAKeep_16 hk (.inl rfl)); replace HB := mk_ (hb); replace HI0 := mk_ (hi); (try clear hb); (try clear hk); (try clear hi)) | ((with_reducible refine gate_callee (f := 56) rfl ?_); refine gL_ (some 39) Try.func56 #[.pointer (some ⟨g, 0, none⟩), .int .i64 3] ?_; (with_reducible refine (spec_l1Rd_below.calls g s0_0 t380 3 t381 t382 w0 _ ?side1 ?side2 A21.out).mono ?_); (case side1 => exact sAIsS99_16); (case side2 => exact sABelo_16); rintro e w23 ⟨rfl, hi, hb, hk⟩; refine ⟨_, rfl, ?_⟩; replace HO_370000 := mk_ (Kd.S_mono (Kd.S_keep (IsS99.apartS (show IsS99 w0 _ g s0_0 t380 from sAIsS99_16) (sT_ HO_370000) (by decide)) hk (fun _ h => h.2)) (fun _ h => h.1)); replace HO_370001 := mk_ (Kd.R_mono (Kd.R_keep (IsS99.apart (show IsS99 w0 _ g s0_0 t380 from sAIsS99_16) (rT_ HO_370001) (by decide)) hk (fun _ h => h.2)) (fun _ h => h.1)); replace BK368 := kB_ hk (bT_ BK368) NB368_0; replace BK369 := kB_ hk (bT_ BK369) NB369_0; replace HK := mk_ (KeepBut.trans (w := w) (row := none) sAKeep_16 hk (.inl rfl)); replace HB := mk_ (hb); replace HI0 := mk_ (hi); (try clear hb); (try clear hk); (try clear hi)) | ((with_reducible refine gate_dst (N := 8) rfl ?_); refine box_event ?hg (N := 8) ?hd (cs := #[.slice none 0 0, .int .i64 0, .int .i64 0, .int .i64 0]) (t := 39) ?hr ?_; (case hd => rfl); (case hg => rfl); (case hr => first | (go_simp; done) | (go_simp; rfl)); intro gb383 hg w24 hbox hb; replace HO_370000 := mk_ (Kd.S_below (Kd.S_elderB (sT_ HO_370000) gb383 (Nat.le_of_eq hg.symm)) hb); replace HO_370001 := rB_ HO_370001 hb; replace HB := mk_ (below_step sABelo_16 hb); have BK383 := mk_ (hbox); have GW383 := mk_ ((by rw [hg]; exact (keep_size (w := w) (g := g) (row := none) sAKeep_16) : w.heap.size ≤ gb383)); have GE383 := mk_ ((Nat.le_trans HW0.out (by rw [hg]; exact (keep_size (w := w) (g := g) (row := none) sAKeep_16) : w.heap.size ≤ gb383) : w0.heap.size ≤ gb383)); replace HK := mk_ (KeepBut.trans (w := w) (row := none) sAKeep_16 (KeepBut.of_below hb g none) (.inl rfl)); have NB368_383 := nL_ BK368 hg; have NB383_368 := nG_ BK368 hg; replace BK368 := bB_ BK368 hb; have NB369_383 := nL_ BK369 hg; have NB383_369 := nG_ BK369 hg; replace BK369 := bB_ BK369 hb; have NB0_383 := mk_ ((by rw [hg]; exact Nat.ne_of_lt (IsS99.lt (show IsS99 w0 _ g s0_0 t382 from sAIsS99_16)) : g ≠ gb383)); have NB383_0 := mk_ ((by rw [hg]; exact Nat.ne_of_gt (IsS99.lt (show IsS99 w0 _ g s0_0 t382 from sAIsS99_16)) : gb383 ≠ g)); replace HI0 := mk_ (IsS99.below sAIsS99_16 hb); clear hb hbox hg; have hnb25 := NB383_368.out; have hnc25 := NB368_383.out; have hnb26 := NB383_369.out; have hnc26 := NB369_383.out; have hnb27 := NB383_0.out; have hnc27 := NB0_383.out; obtain ⟨hcz28_0, hcz28_1, hcz28_2, hcz28_3, hfz28_0, hfz28_1, hfz28_2, hfz28_3⟩ := cf4_ BK383))
       go_loopg [9] k2 (fun kq v9 w' => ∃ (x9_3 : Int) (x1001_3 : Int) (x384000_3 : List Int) (u384000 : Value), v9 = .int .i64 x9_3 ∧ Aside0 (spec_l1Rd_suite.l2 kq (wrap64 (1 + t370)) t377 x7_2 x9_3 s0_0 x1001_3 x370000_2 x370001_1 x384000_3 (wrap64 (1 + t379)) 0 (wrap64 (1 + t381)) = some (r1, r2, r3)) ∧ Aside0 (kq ≤ k2) ∧ Aside0 (Kd.S k39 39 w' w.heap.size (fun k_ => some k_ ≠ (u370001 : Value).ownBlock ∧ some k_ ≠ (u384000 : Value).ownBlock ∧ k_ ≠ gb383) u370000 x370000_2) ∧ Aside0 (Kd.R (Kd.int .i64) 2 w' w.heap.size (fun k_ => some k_ ≠ (u384000 : Value).ownBlock) u370001 x370001_1) ∧ Aside0 (Kd.R (Kd.int .i64) 2 w' w.heap.size (fun k_ => some k_ ≠ (u370001 : Value).ownBlock) u384000 x384000_3) ∧ Aside0 (w'.heap[gb368]? = some (.cells #[(.slice none 0 0), (.slice none 0 0)] 27 (0, 0))) ∧ Aside0 (w'.heap[gb369]? = some (.cells #[u370000, u370001] 27 (0, 0))) ∧ Aside0 (w'.heap[gb383]? = some (.cells #[u384000, .int .i64 (wrap64 (1 + t379)), .int .i64 0, .int .i64 (wrap64 (1 + t381))] 39 (0, 0))) ∧ Aside0 (IsS99 w0 w' g s0_0 x1001_3) ∧ Aside0 (KeepBut w w' g none) ∧ Aside0 (Below w0.heap.size w0 w'))
       case atStart => exact ⟨(1), (t382), (([] : List Int)), (.slice none 0 0), eS_, H', ⟨Nat.le_refl _⟩, ⟨sFN_ HO_370000⟩, ⟨rFM_ HO_370001 BK383⟩, ⟨by first | exact Kd.R_nil _ _ _ _ _ | exact Kd.N_nil _ _ _ _ _ | exact Kd.V_nil _ _ _ _ _ | exact Kd.Q_nil _ _ _ _ _ | exact Kd.S_nil _ _ _ _ _⟩, ⟨bF_ BK368 NB368_383⟩, ⟨bF_ BK369 NB369_383⟩, ⟨bP_ BK383⟩, ⟨sAIsS99_16⟩, ⟨sAKeep_16⟩, ⟨sABelo_16⟩⟩
       case round =>
        clear H'; (try clear c9); (try clear c9b0); (try clear c19); (try clear c19b0); (try clear hcz28_0); (try clear hcz28_1); (try clear hcz28_2); (try clear hcz28_3); (try clear hcz7_0); (try clear hcz7_1); (try clear hfz28_0); (try clear hfz28_1); (try clear hfz28_2); (try clear hfz28_3); (try clear hfz7_0); (try clear hfz7_1)
        obtain ⟨x9_3, x1001_3, x384000_3, u384000, rfl, HA, HK3, HO_370000, HO_370001, HO_384000, BK368, BK369, BK383, HI0, HK, HB⟩ := hrel
        cases gk with
        | zero => exact absurd HA.out (by simp [spec_l1Rd_suite.l2])
        | succ k3 =>
         have H := HA.out; clear HA
         simp only [spec_l1Rd_suite.l2] at H
         by_cases c29 : x9_3 ≤ x7_2
         ·rw [if_pos c29] at H
          have c29b0 := decide_eq_true c29
          clear c29; replace H := Option.bind_eq_some_iff.mp H
          obtain ⟨⟨t384, t385⟩, A300, H⟩ := H
          (try dsimp only at H)
          have A30 := mk_ A300; clear A300
          by_cases c31 : t384 = true
          ·subst c31
           replace H := ifT_ H
           obtain ⟨c32, H⟩ := ifS_ H
           have LMc32 := mk_ c32; clear c32
           obtain ⟨y386, hy386⟩ : ∃ y_ : List Int, y_ = (x384000_3 ++ [x9_3]) := ⟨_, rfl⟩
           replace H : (spec_l1Rd_suite.l2 k3 (wrap64 (1 + t370)) t377 x7_2 (wrap64 (x9_3 + 1)) s0_0 t385 x370000_2 x370001_1 y386 (wrap64 (1 + t379)) 0 (wrap64 (1 + t381))) = some (r1, r2, r3) := by first | (rw [hy386]; with_reducible exact H) | (have H2_ := (Option.bind_some _ _).symm.trans H; rw [hy386]; with_reducible exact H2_) | (have H2_ := (Option.bind_some _ _).symm.trans H; with_reducible exact H2_) | with_reducible exact H | (rw [hy386]; exact H) | exact H
           have Ny386 := mk_ hy386; clear hy386; have H' := mk_ H; clear H
           go_wp2_with (first | ((with_reducible refine gate_callee (f := 57) rfl ?_); refine gL_ (some 48) Try.func57 #[.pointer (some ⟨g, 0, none⟩), .int .i64 3] ?_; (with_reducible refine (spec_l1Rd_once.calls g s0_0 x1001_3 3 true t385 w0 _ ?side1 ?side2 A30.out).mono ?_); (case side1 => exact sAIsS99_16); (case side2 => exact sABelo_16); rintro e w33 ⟨rfl, hi, hb, hk⟩; refine ⟨_, rfl, ?_⟩; replace HO_370000 := mk_ (Kd.S_mono (Kd.S_keep (IsS99.apartS (show IsS99 w0 _ g s0_0 x1001_3 from sAIsS99_16) (sT_ HO_370000) (by decide)) hk (fun _ h => h.2)) (fun _ h => h.1)); replace HO_370001 := mk_ (Kd.R_mono (Kd.R_keep (IsS99.apart (show IsS99 w0 _ g s0_0 x1001_3 from sAIsS99_16) (rT_ HO_370001) (by decide)) hk (fun _ h => h.2)) (fun _ h => h.1)); replace HO_384000 := mk_ (Kd.R_mono (Kd.R_keep (IsS99.apart (show IsS99 w0 _ g s0_0 x1001_3 from sAIsS99_16) (rT_ HO_384000) (by decide)) hk (fun _ h => h.2)) (fun _ h => h.1)); replace BK368 := kB_ hk (bT_ BK368) NB368_0; replace BK369 := kB_ hk (bT_ BK369) NB369_0; replace BK383 := kB_ hk (bT_ BK383) NB383_0; replace HK := mk_ (KeepBut.trans (w := w) (row := none) sAKeep_16 hk (.inl rfl)); replace HB := mk_ (hb); replace HI0 := mk_ (hi); (try clear hb); (try clear hk); (try clear hi); have hnb34 := NB383_368.out; have hnc34 := NB368_383.out; have hnb35 := NB383_369.out; have hnc35 := NB369_383.out; have hnb36 := NB383_0.out; have hnc36 := NB0_383.out; obtain ⟨hcz37_0, hcz37_1, hcz37_2, hcz37_3, hfz37_0, hfz37_1, hfz37_2, hfz37_3⟩ := cf4_ BK383) | ((with_reducible refine gate_builtin (b := .append) (xs := #[.tmp 50, .tmp 52]) rfl ?_); at_builtin; refine Kd.R_append (Kd.int .i64) w.heap.size rfl (.tmp 50) (.tmp 52) 25 2 (.int .i64 0) 8 rfl Try.underlying25 info2 rfl (by decide) (by omega) u384000 x384000_3 x9_3 [.int .i64 x9_3] (fun k_ => some k_ ≠ (u370001 : Value).ownBlock) (fun _ => False) rfl rfl ?aP (fun _ hk => hk.elim) ?aF ?aO (Below.refl _ _) ?aS ?aL ?_; (case aP => exact rfl); (case aF => exact (fun k_ hk => Kd.fresh' (rLt_ HO_370001) k_ hk)); (case aO => exact (rT_ HO_384000)); (case aS => exact (keep_size (w := w) (g := g) (row := none) sAKeep_16)); (case aL => have := LMc32.out; omega); intro v387 w38 ho hb hg hat; rw [← Ny386.out] at ho; replace HO_370000 := mk_ (Kd.S_after (ok := (fun k_ => some k_ ≠ (u370001 : Value).ownBlock ∧ k_ ≠ gb383)) (by (with_reducible repeat (first | apply Kd.S_alloc | apply Kd.S_drewN | apply Kd.S_drew)); exact Kd.S_mono HO_370000.out (fun _ hk => ⟨⟨hk.1, hk.2.2⟩, hk.2.1⟩)) hg hat); replace HO_370001 := mk_ (Kd.R_after (ok := (fun _ => True)) (rM_ HO_370001 (fun _ hk => ⟨trivial, hk⟩)) hg hat); replace BK368 := mk_ (blk_grown (bT_ BK368) hg (Kd.R_ne HO_384000.out BK368.out (by decide))); replace BK369 := mk_ (blk_grown (bT_ BK369) hg (Kd.R_ne HO_384000.out BK369.out (by decide))); replace BK383 := mk_ (blk_grown (bT_ BK383) hg (Kd.R_ne HO_384000.out BK383.out (by decide))); replace HB := mk_ (below_weaken sABelo_16 HL.out hb); replace HI0 := mk_ (IsS99.grown sAIsS99_16 hg (IsS99.own_ne HI0.out HO_384000.out (by decide))); replace HK := mk_ (KeepBut.trans (w := w) (row := none) sAKeep_16 (KeepBut.of_grown hg g) (Kd.R_base2 HO_384000.out)); have HO388 := mk_ (ho); clear HO_384000; clear ho hb hg hat; obtain ⟨Ao39, co39, eo39⟩ := Kd.R_slice HO388.out; subst eo39; obtain ⟨hcz40_0, hcz40_1, hcz40_2, hcz40_3, hfz40_0, hfz40_1, hfz40_2, hfz40_3⟩ := cf4_ BK383))
           go_roundg k3
           case measure => have := HK1.out; have := HK2.out; have := HK3.out; omega
           case rel => exact ⟨(wrap64 (x9_3 + 1)), (t385), (y386), (.slice Ao39 y386.length co39), eS_, H', ⟨by have := HK1.out; have := HK2.out; have := HK3.out; omega⟩, ⟨sFN_ HO_370000⟩, ⟨rFM_ HO_370001 BK383⟩, ⟨rFM_ HO388 BK383⟩, ⟨bF_ BK368 NB368_383⟩, ⟨bF_ BK369 NB369_383⟩, ⟨bP_ BK383⟩, ⟨sAIsS99_16⟩, ⟨sAKeep_16⟩, ⟨sABelo_16⟩⟩
          ·replace c31 := Bool.eq_false_iff.mpr c31
           subst c31
           replace H := ifF_ H; have H' := mk_ H; clear H
           go_wp2_with (first | ((with_reducible refine gate_callee (f := 57) rfl ?_); refine gL_ (some 48) Try.func57 #[.pointer (some ⟨g, 0, none⟩), .int .i64 3] ?_; (with_reducible refine (spec_l1Rd_once.calls g s0_0 x1001_3 3 false t385 w0 _ ?side1 ?side2 A30.out).mono ?_); (case side1 => exact sAIsS99_16); (case side2 => exact sABelo_16); rintro e w41 ⟨rfl, hi, hb, hk⟩; refine ⟨_, rfl, ?_⟩; replace HO_370000 := mk_ (Kd.S_mono (Kd.S_keep (IsS99.apartS (show IsS99 w0 _ g s0_0 x1001_3 from sAIsS99_16) (sT_ HO_370000) (by decide)) hk (fun _ h => h.2)) (fun _ h => h.1)); replace HO_370001 := mk_ (Kd.R_mono (Kd.R_keep (IsS99.apart (show IsS99 w0 _ g s0_0 x1001_3 from sAIsS99_16) (rT_ HO_370001) (by decide)) hk (fun _ h => h.2)) (fun _ h => h.1)); replace HO_384000 := mk_ (Kd.R_mono (Kd.R_keep (IsS99.apart (show IsS99 w0 _ g s0_0 x1001_3 from sAIsS99_16) (rT_ HO_384000) (by decide)) hk (fun _ h => h.2)) (fun _ h => h.1)); replace BK368 := kB_ hk (bT_ BK368) NB368_0; replace BK369 := kB_ hk (bT_ BK369) NB369_0; replace BK383 := kB_ hk (bT_ BK383) NB383_0; replace HK := mk_ (KeepBut.trans (w := w) (row := none) sAKeep_16 hk (.inl rfl)); replace HB := mk_ (hb); replace HI0 := mk_ (hi); (try clear hb); (try clear hk); (try clear hi)))
           go_roundg k3
           case measure => have := HK1.out; have := HK2.out; have := HK3.out; omega
           case rel => exact ⟨(wrap64 (x9_3 + 1)), (t385), (x384000_3), (u384000), eS_, H', ⟨by have := HK1.out; have := HK2.out; have := HK3.out; omega⟩, ⟨sT_ HO_370000⟩, ⟨rT_ HO_370001⟩, ⟨rT_ HO_384000⟩, ⟨bT_ BK368⟩, ⟨bT_ BK369⟩, ⟨bT_ BK383⟩, ⟨sAIsS99_16⟩, ⟨sAKeep_16⟩, ⟨sABelo_16⟩⟩
         ·rw [if_neg c29] at H
          have c29b0 := decide_eq_false c29
          clear c29; replace H := Option.bind_eq_some_iff.mp H
          obtain ⟨⟨t389, t390⟩, A420, H⟩ := H
          (try dsimp only at H)
          have A42 := mk_ A420; clear A420
          by_cases c43 : t389 = true
          ·subst c43
           replace H := ifT_ H; replace H := Option.bind_eq_some_iff.mp H
           obtain ⟨⟨t391, t392⟩, A440, H⟩ := H
           (try dsimp only at H)
           have A44 := mk_ A440; clear A440
           obtain ⟨c45, H⟩ := ifS_ H
           have LMc45 := mk_ c45; clear c45
           obtain ⟨y393, hy393⟩ : ∃ y_ : List (S39), y_ = (x370000_2 ++ [(⟨x384000_3, (wrap64 (1 + t379)), wrap64 (1 + t391), (wrap64 (1 + t381))⟩ : S39)]) := ⟨_, rfl⟩
           replace H : (spec_l1Rd_suite.l1 k3 (wrap64 (1 + t370)) t377 (wrap64 (x7_2 + 1)) s0_0 t392 y393 x370001_1) = some (r1, r2, r3) := by first | (rw [hy393]; with_reducible exact H) | (have H2_ := (Option.bind_some _ _).symm.trans H; rw [hy393]; with_reducible exact H2_) | (have H2_ := (Option.bind_some _ _).symm.trans H; with_reducible exact H2_) | with_reducible exact H | (rw [hy393]; exact H) | exact H
           have Ny393 := mk_ hy393; clear hy393; have H' := mk_ H; clear H
           go_wp2_with (first | ((with_reducible refine gate_callee (f := 57) rfl ?_); refine gL_ (some 56) Try.func57 #[.pointer (some ⟨g, 0, none⟩), .int .i64 2] ?_; (with_reducible refine (spec_l1Rd_once.calls g s0_0 x1001_3 2 true t390 w0 _ ?side1 ?side2 A42.out).mono ?_); (case side1 => exact sAIsS99_16); (case side2 => exact sABelo_16); rintro e w46 ⟨rfl, hi, hb, hk⟩; refine ⟨_, rfl, ?_⟩; replace HO_370000 := mk_ (Kd.S_mono (Kd.S_keep (IsS99.apartS (show IsS99 w0 _ g s0_0 x1001_3 from sAIsS99_16) (sT_ HO_370000) (by decide)) hk (fun _ h => h.2)) (fun _ h => h.1)); replace HO_370001 := mk_ (Kd.R_mono (Kd.R_keep (IsS99.apart (show IsS99 w0 _ g s0_0 x1001_3 from sAIsS99_16) (rT_ HO_370001) (by decide)) hk (fun _ h => h.2)) (fun _ h => h.1)); replace HO_384000 := mk_ (Kd.R_mono (Kd.R_keep (IsS99.apart (show IsS99 w0 _ g s0_0 x1001_3 from sAIsS99_16) (rT_ HO_384000) (by decide)) hk (fun _ h => h.2)) (fun _ h => h.1)); replace BK368 := kB_ hk (bT_ BK368) NB368_0; replace BK369 := kB_ hk (bT_ BK369) NB369_0; replace BK383 := kB_ hk (bT_ BK383) NB383_0; replace HK := mk_ (KeepBut.trans (w := w) (row := none) sAKeep_16 hk (.inl rfl)); replace HB := mk_ (hb); replace HI0 := mk_ (hi); (try clear hb); (try clear hk); (try clear hi)) | ((with_reducible refine gate_callee (f := 56) rfl ?_); refine gL_ (some 58) Try.func56 #[.pointer (some ⟨g, 0, none⟩), .int .i64 50] ?_; (with_reducible refine (spec_l1Rd_below.calls g s0_0 t390 50 t391 t392 w0 _ ?side1 ?side2 A44.out).mono ?_); (case side1 => exact sAIsS99_16); (case side2 => exact sABelo_16); rintro e w47 ⟨rfl, hi, hb, hk⟩; refine ⟨_, rfl, ?_⟩; replace HO_370000 := mk_ (Kd.S_mono (Kd.S_keep (IsS99.apartS (show IsS99 w0 _ g s0_0 t390 from sAIsS99_16) (sT_ HO_370000) (by decide)) hk (fun _ h => h.2)) (fun _ h => h.1)); replace HO_370001 := mk_ (Kd.R_mono (Kd.R_keep (IsS99.apart (show IsS99 w0 _ g s0_0 t390 from sAIsS99_16) (rT_ HO_370001) (by decide)) hk (fun _ h => h.2)) (fun _ h => h.1)); replace HO_384000 := mk_ (Kd.R_mono (Kd.R_keep (IsS99.apart (show IsS99 w0 _ g s0_0 t390 from sAIsS99_16) (rT_ HO_384000) (by decide)) hk (fun _ h => h.2)) (fun _ h => h.1)); replace BK368 := kB_ hk (bT_ BK368) NB368_0; replace BK369 := kB_ hk (bT_ BK369) NB369_0; replace BK383 := kB_ hk (bT_ BK383) NB383_0; replace HK := mk_ (KeepBut.trans (w := w) (row := none) sAKeep_16 hk (.inl rfl)); replace HB := mk_ (hb); replace HI0 := mk_ (hi); (try clear hb); (try clear hk); (try clear hi); have hnb48 := NB383_368.out; have hnc48 := NB368_383.out; have hnb49 := NB383_369.out; have hnc49 := NB369_383.out; have hnb50 := NB383_0.out; have hnc50 := NB0_383.out; obtain ⟨hcz51_0, hcz51_1, hcz51_2, hcz51_3, hfz51_0, hfz51_1, hfz51_2, hfz51_3⟩ := cf4_ BK383) | ((with_reducible refine gate_store (t := 2) (p := 60) rfl ?_); refine store_event (t := 2) (p := 60) (v := ?vo_w52) (w1 := (w47.setCell ⟨gb383, 2, none⟩ (.int .i64 (wrap64 (1 + t391))))) ?hg ?ho ?hn ?hr ?_; (case ho => rfl); (case hg => rfl); (case hn => rfl); (case hr => first | (go_simp; done) | (go_simp; rfl)); intro w52 hw; have n0_ : Aside0 (Kd.S k39 39 w52 w.heap.size (fun k_ => some k_ ≠ (u370001 : Value).ownBlock ∧ some k_ ≠ (u384000 : Value).ownBlock ∧ k_ ≠ gb383) u370000 x370000_2) := ⟨(by rw [hw]; exact (by (with_reducible repeat (first | apply Kd.S_alloc | apply Kd.S_drewN | apply Kd.S_drew)); exact Kd.S_mono (Kd.S_far (p := ⟨gb383, 2, none⟩) (Kd.S_mono HO_370000.out (fun k_ hk => (⟨hk, hk.2.2⟩ : _ ∧ k_ ≠ gb383))) (fun _ hk => hk.2) (.int .i64 (wrap64 (1 + t391)))) (fun _ hk => ⟨hk.1.1, ⟨hk.1.2.1, hk.1.2.2⟩⟩)))⟩; have n1_ : Aside0 (Kd.R (Kd.int .i64) 2 w52 w.heap.size (fun k_ => some k_ ≠ (u384000 : Value).ownBlock) u370001 x370001_1) := ⟨(by rw [hw]; exact (rF_ HO_370001 BK383))⟩; have n2_ : Aside0 (Kd.R (Kd.int .i64) 2 w52 w.heap.size (fun k_ => some k_ ≠ (u370001 : Value).ownBlock) u384000 x384000_3) := ⟨(by rw [hw]; exact (rF_ HO_384000 BK383))⟩; have n3_ : Aside0 (w52.heap[gb368]? = some (.cells #[.slice none 0 0, .slice none 0 0] 27 (0, 0))) := ⟨(by rw [hw]; exact (bF_ BK368 NB368_383))⟩; have n4_ : Aside0 (w52.heap[gb369]? = some (.cells #[u370000, u370001] 27 (0, 0))) := ⟨(by rw [hw]; exact (bF_ BK369 NB369_383))⟩; have n5_ : Aside0 (w52.heap[gb383]? = some (.cells #[u384000, .int .i64 (wrap64 (1 + t379)), .int .i64 (wrap64 (1 + t391)), .int .i64 (wrap64 (1 + t381))] 39 (0, 0))) := ⟨(by rw [hw]; exact (bP_ BK383))⟩; have n6_ : Aside0 (IsS99 w0 w52 g s0_0 t392) := ⟨(by rw [hw]; exact sAIsS99_16)⟩; have n7_ : Aside0 (KeepBut w w52 g none) := ⟨(by rw [hw]; exact sAKeep_16)⟩; have n8_ : Aside0 (Below w0.heap.size w0 w52) := ⟨(by rw [hw]; exact sABelo_16)⟩; clear hw; clear HO_370000; clear HO_370001; clear HO_384000; clear BK368; clear BK369; clear BK383; clear HI0; clear HK; clear HB; have HO_370000 := n0_; have HO_370001 := n1_; have HO_384000 := n2_; have BK368 := n3_; have BK369 := n4_; have BK383 := n5_; have HI0 := n6_; have HK := n7_; have HB := n8_; clear n0_ n1_ n2_ n3_ n4_ n5_ n6_ n7_ n8_; have hnb53 := NB369_368.out; have hnc53 := NB368_369.out; have hnb54 := NB369_0.out; have hnc54 := NB0_369.out; obtain ⟨hcz55_0, hcz55_1, hfz55_0, hfz55_1⟩ := cf2_ BK369; obtain ⟨hcz56_0, hcz56_1, hcz56_2, hcz56_3, hfz56_0, hfz56_1, hfz56_2, hfz56_3⟩ := cf4_ BK383; obtain ⟨Ao58, co58, eo58⟩ := Kd.R_slice HO_384000.out; subst eo58) | ((with_reducible refine gate_builtin (b := .append) (xs := #[.tmp 62, .tmp 64]) rfl ?_); at_builtin; refine Kd.S_append k39 w.heap.size rfl (.tmp 62) (.tmp 64) 24 39 (.agg #[(.slice none 0 0), (.int .i64 0), (.int .i64 0), (.int .i64 0)]) 48 rfl Try.underlying24 info39 rfl (by decide) (by omega) u370000 x370000_2 (⟨x384000_3, (wrap64 (1 + t379)), wrap64 (1 + t391), (wrap64 (1 + t381))⟩ : S39) [.slice Ao58 x384000_3.length co58, .int .i64 (wrap64 (1 + t379)), .int .i64 (wrap64 (1 + t391)), .int .i64 (wrap64 (1 + t381))] (fun k_ => some k_ ≠ (u370001 : Value).ownBlock ∧ k_ ≠ gb383) (fun k_ => some k_ = (.slice Ao58 x384000_3.length co58 : Value).ownBlock) rfl rfl ?aP (fun k_ hk_ => ((Kd.R_mono (ok' := fun k_ => ((fun k_ => some k_ ≠ (u370001 : Value).ownBlock ∧ k_ ≠ gb383)) k_ ∧ some k_ ≠ (u370000 : Value).ownBlock) (Kd.R_types (Kd.R_apart' (HO_384000.out) (Kd.S_typed HO_370000.out) (by decide)) BK383.out (by decide)) (fun k_ hk => ⟨⟨hk.1.1, hk.2⟩, hk.1.2⟩))).1 k_ hk_.symm) ?aF ?aO (Below.refl _ _) ?aS ?aL ?_; (case aP => exact k39_mkM _ _ _ (⟨x384000_3, (wrap64 (1 + t379)), wrap64 (1 + t391), (wrap64 (1 + t381))⟩ : S39) (Kd.R_mono (Kd.R_tight rfl (Kd.R_mono (ok' := fun k_ => ((fun k_ => some k_ ≠ (u370001 : Value).ownBlock ∧ k_ ≠ gb383)) k_ ∧ some k_ ≠ (u370000 : Value).ownBlock) (Kd.R_types (Kd.R_apart' (HO_384000.out) (Kd.S_typed HO_370000.out) (by decide)) BK383.out (by decide)) (fun k_ hk => ⟨⟨hk.1.1, hk.2⟩, hk.1.2⟩))) (fun _ h_ => h_))); (case aF => exact (fun k_ hk => ⟨Kd.fresh' (rLt_ HO_370001) k_ hk, Kd.freshB (g := gb383) (o := .cells #[.slice Ao58 x384000_3.length co58, .int .i64 (wrap64 (1 + t379)), .int .i64 (wrap64 (1 + t391)), .int .i64 (wrap64 (1 + t381))] 39 (0, 0)) (bT_ BK383) k_ hk⟩)); (case aO => exact (by (with_reducible repeat (first | apply Kd.S_alloc | apply Kd.S_drewN | apply Kd.S_drew)); exact Kd.S_mono HO_370000.out (fun k_ hk => ⟨⟨hk.1, hk.2.2⟩, fun e_ => hk.2.1 e_⟩))); (case aS => exact (keep_size (w := w) (g := g) (row := none) sAKeep_16)); (case aL => have := LMc45.out; omega); intro v394 w57 ho hb hg hat; rw [← Ny393.out] at ho; replace HO_370001 := mk_ (Kd.R_over' (rT_ HO_370001) (Kd.S_typed (sT_ HO_370000)) (by decide) hg); replace BK368 := mk_ (blk_grown (bT_ BK368) hg (Kd.S_ne HO_370000.out BK368.out (by decide))); replace BK369 := mk_ (blk_grown (bT_ BK369) hg (Kd.S_ne HO_370000.out BK369.out (by decide))); replace BK383 := mk_ (blk_grown (bT_ BK383) hg (Kd.S_away HO_370000.out (fun _ hk => hk.2.2))); replace HB := mk_ (below_weaken sABelo_16 HL.out hb); replace HI0 := mk_ (IsS99.grown sAIsS99_16 hg (IsS99.own_neS HI0.out HO_370000.out (by decide))); replace HK := mk_ (KeepBut.trans (w := w) (row := none) sAKeep_16 (KeepBut.of_grown hg g) (Kd.S_base2 HO_370000.out)); have HO395 := mk_ (ho); clear HO_370000 HO_384000; clear ho hb hg hat; obtain ⟨Ao59, co59, eo59⟩ := Kd.S_slice HO395.out; subst eo59; obtain ⟨hcz60_0, hcz60_1, hfz60_0, hfz60_1⟩ := cf2_ BK369))
           go_roundg k3
           case measure => have := HK1.out; have := HK2.out; have := HK3.out; omega
           case rel => exact ⟨(wrap64 (x7_2 + 1)), (t392), (y393), (.slice Ao59 y393.length co59), eS_, H', ⟨by have := HK1.out; have := HK2.out; have := HK3.out; omega⟩, ⟨sFM_ HO395 BK369⟩, ⟨rFM_ HO_370001 BK369⟩, ⟨bF_ BK368 NB368_369⟩, ⟨bP_ BK369⟩, ⟨sAIsS99_16⟩, ⟨sAKeep_16⟩, ⟨sABelo_16⟩⟩
          ·replace c43 := Bool.eq_false_iff.mpr c43
           subst c43
           replace H := ifF_ H
           obtain ⟨c61, H⟩ := ifS_ H
           have LMc61 := mk_ c61; clear c61
           obtain ⟨y396, hy396⟩ : ∃ y_ : List (S39), y_ = (x370000_2 ++ [(⟨x384000_3, (wrap64 (1 + t379)), 0, (wrap64 (1 + t381))⟩ : S39)]) := ⟨_, rfl⟩
           replace H : (spec_l1Rd_suite.l1 k3 (wrap64 (1 + t370)) t377 (wrap64 (x7_2 + 1)) s0_0 t390 y396 x370001_1) = some (r1, r2, r3) := by first | (rw [hy396]; with_reducible exact H) | (have H2_ := (Option.bind_some _ _).symm.trans H; rw [hy396]; with_reducible exact H2_) | (have H2_ := (Option.bind_some _ _).symm.trans H; with_reducible exact H2_) | with_reducible exact H | (rw [hy396]; exact H) | exact H
           have Ny396 := mk_ hy396; clear hy396; have H' := mk_ H; clear H
           go_wp2_with (first | ((with_reducible refine gate_callee (f := 57) rfl ?_); refine gL_ (some 56) Try.func57 #[.pointer (some ⟨g, 0, none⟩), .int .i64 2] ?_; (with_reducible refine (spec_l1Rd_once.calls g s0_0 x1001_3 2 false t390 w0 _ ?side1 ?side2 A42.out).mono ?_); (case side1 => exact sAIsS99_16); (case side2 => exact sABelo_16); rintro e w62 ⟨rfl, hi, hb, hk⟩; refine ⟨_, rfl, ?_⟩; replace HO_370000 := mk_ (Kd.S_mono (Kd.S_keep (IsS99.apartS (show IsS99 w0 _ g s0_0 x1001_3 from sAIsS99_16) (sT_ HO_370000) (by decide)) hk (fun _ h => h.2)) (fun _ h => h.1)); replace HO_370001 := mk_ (Kd.R_mono (Kd.R_keep (IsS99.apart (show IsS99 w0 _ g s0_0 x1001_3 from sAIsS99_16) (rT_ HO_370001) (by decide)) hk (fun _ h => h.2)) (fun _ h => h.1)); replace HO_384000 := mk_ (Kd.R_mono (Kd.R_keep (IsS99.apart (show IsS99 w0 _ g s0_0 x1001_3 from sAIsS99_16) (rT_ HO_384000) (by decide)) hk (fun _ h => h.2)) (fun _ h => h.1)); replace BK368 := kB_ hk (bT_ BK368) NB368_0; replace BK369 := kB_ hk (bT_ BK369) NB369_0; replace BK383 := kB_ hk (bT_ BK383) NB383_0; replace HK := mk_ (KeepBut.trans (w := w) (row := none) sAKeep_16 hk (.inl rfl)); replace HB := mk_ (hb); replace HI0 := mk_ (hi); (try clear hb); (try clear hk); (try clear hi); have hnb63 := NB369_368.out; have hnc63 := NB368_369.out; have hnb64 := NB369_383.out; have hnc64 := NB383_369.out; have hnb65 := NB369_0.out; have hnc65 := NB0_369.out; obtain ⟨hcz66_0, hcz66_1, hfz66_0, hfz66_1⟩ := cf2_ BK369; have hnb67 := NB383_368.out; have hnc67 := NB368_383.out; have hnb68 := NB383_0.out; have hnc68 := NB0_383.out; obtain ⟨hcz69_0, hcz69_1, hcz69_2, hcz69_3, hfz69_0, hfz69_1, hfz69_2, hfz69_3⟩ := cf4_ BK383; obtain ⟨Ao71, co71, eo71⟩ := Kd.R_slice HO_384000.out; subst eo71) | ((with_reducible refine gate_builtin (b := .append) (xs := #[.tmp 62, .tmp 64]) rfl ?_); at_builtin; refine Kd.S_append k39 w.heap.size rfl (.tmp 62) (.tmp 64) 24 39 (.agg #[(.slice none 0 0), (.int .i64 0), (.int .i64 0), (.int .i64 0)]) 48 rfl Try.underlying24 info39 rfl (by decide) (by omega) u370000 x370000_2 (⟨x384000_3, (wrap64 (1 + t379)), 0, (wrap64 (1 + t381))⟩ : S39) [.slice Ao71 x384000_3.length co71, .int .i64 (wrap64 (1 + t379)), .int .i64 0, .int .i64 (wrap64 (1 + t381))] (fun k_ => some k_ ≠ (u370001 : Value).ownBlock ∧ k_ ≠ gb383) (fun k_ => some k_ = (.slice Ao71 x384000_3.length co71 : Value).ownBlock) rfl rfl ?aP (fun k_ hk_ => ((Kd.R_mono (ok' := fun k_ => ((fun k_ => some k_ ≠ (u370001 : Value).ownBlock ∧ k_ ≠ gb383)) k_ ∧ some k_ ≠ (u370000 : Value).ownBlock) (Kd.R_types (Kd.R_apart' (HO_384000.out) (Kd.S_typed HO_370000.out) (by decide)) BK383.out (by decide)) (fun k_ hk => ⟨⟨hk.1.1, hk.2⟩, hk.1.2⟩))).1 k_ hk_.symm) ?aF ?aO (Below.refl _ _) ?aS ?aL ?_; (case aP => exact k39_mkM _ _ _ (⟨x384000_3, (wrap64 (1 + t379)), 0, (wrap64 (1 + t381))⟩ : S39) (Kd.R_mono (Kd.R_tight rfl (Kd.R_mono (ok' := fun k_ => ((fun k_ => some k_ ≠ (u370001 : Value).ownBlock ∧ k_ ≠ gb383)) k_ ∧ some k_ ≠ (u370000 : Value).ownBlock) (Kd.R_types (Kd.R_apart' (HO_384000.out) (Kd.S_typed HO_370000.out) (by decide)) BK383.out (by decide)) (fun k_ hk => ⟨⟨hk.1.1, hk.2⟩, hk.1.2⟩))) (fun _ h_ => h_))); (case aF => exact (fun k_ hk => ⟨Kd.fresh' (rLt_ HO_370001) k_ hk, Kd.freshB (g := gb383) (o := .cells #[.slice Ao71 x384000_3.length co71, .int .i64 (wrap64 (1 + t379)), .int .i64 0, .int .i64 (wrap64 (1 + t381))] 39 (0, 0)) (bT_ BK383) k_ hk⟩)); (case aO => exact (by (with_reducible repeat (first | apply Kd.S_alloc | apply Kd.S_drewN | apply Kd.S_drew)); exact Kd.S_mono HO_370000.out (fun k_ hk => ⟨⟨hk.1, hk.2.2⟩, fun e_ => hk.2.1 e_⟩))); (case aS => exact (keep_size (w := w) (g := g) (row := none) sAKeep_16)); (case aL => have := LMc61.out; omega); intro v397 w70 ho hb hg hat; rw [← Ny396.out] at ho; replace HO_370001 := mk_ (Kd.R_over' (rT_ HO_370001) (Kd.S_typed (sT_ HO_370000)) (by decide) hg); replace BK368 := mk_ (blk_grown (bT_ BK368) hg (Kd.S_ne HO_370000.out BK368.out (by decide))); replace BK369 := mk_ (blk_grown (bT_ BK369) hg (Kd.S_ne HO_370000.out BK369.out (by decide))); replace BK383 := mk_ (blk_grown (bT_ BK383) hg (Kd.S_away HO_370000.out (fun _ hk => hk.2.2))); replace HB := mk_ (below_weaken sABelo_16 HL.out hb); replace HI0 := mk_ (IsS99.grown sAIsS99_16 hg (IsS99.own_neS HI0.out HO_370000.out (by decide))); replace HK := mk_ (KeepBut.trans (w := w) (row := none) sAKeep_16 (KeepBut.of_grown hg g) (Kd.S_base2 HO_370000.out)); have HO398 := mk_ (ho); clear HO_370000 HO_384000; clear ho hb hg hat; obtain ⟨Ao72, co72, eo72⟩ := Kd.S_slice HO398.out; subst eo72; obtain ⟨hcz73_0, hcz73_1, hfz73_0, hfz73_1⟩ := cf2_ BK369))
           go_roundg k3
           case measure => have := HK1.out; have := HK2.out; have := HK3.out; omega
           case rel => exact ⟨(wrap64 (x7_2 + 1)), (t390), (y396), (.slice Ao72 y396.length co72), eS_, H', ⟨by have := HK1.out; have := HK2.out; have := HK3.out; omega⟩, ⟨sFM_ HO398 BK369⟩, ⟨rFM_ HO_370001 BK369⟩, ⟨bF_ BK368 NB368_369⟩, ⟨bP_ BK369⟩, ⟨sAIsS99_16⟩, ⟨sAKeep_16⟩, ⟨sABelo_16⟩⟩
      ·rw [if_neg c19] at H
       have c19b0 := decide_eq_false c19
       clear c19
       simp only [Option.some.injEq, Prod.mk.injEq] at H
       obtain ⟨rfl, rfl, rfl⟩ := H
       have hnb74 := NB369_368.out; have hnc74 := NB368_369.out; have hnb75 := NB369_0.out; have hnc75 := NB0_369.out
       obtain ⟨hcz76_0, hcz76_1, hfz76_0, hfz76_1⟩ := cf2_ BK369
       obtain ⟨Ao77, co77, eo77⟩ := Kd.S_slice HO_370000.out
       subst eo77
       have hnb78 := NB368_0.out; have hnc78 := NB0_368.out
       obtain ⟨hcz79_0, hcz79_1, hfz79_0, hfz79_1⟩ := cf2_ BK368
       obtain ⟨Ao80, co80, eo80⟩ := Kd.R_slice HO_370001.out
       subst eo80
       go_wp2
       refine bodyPost_ret (results_cell_row rfl _ _ gb368 27 #[.slice Ao77 x370000_2.length co77, .slice Ao80 x370001_1.length co80] (0, 0) _ rfl (bP_ BK368) Try.underlying27 rfl (by kernel_rfl)) rfl ?_
       exact ⟨_, _, eW_, by (with_reducible repeat (first | apply Kd.S_alloc | apply Kd.S_drewN | apply Kd.S_drew)); exact Kd.S_mono (Kd.S_far (p := ⟨gb368, 1, none⟩) (Kd.S_far (p := ⟨gb368, 0, none⟩) (Kd.S_types HO_370000.out BK368.out (by decide)) (fun _ hk => hk.2) (.slice Ao77 x370000_2.length co77)) (fun _ hk => hk.2) (.slice Ao80 x370001_1.length co80)) (fun _ hk => hk.1), by (with_reducible repeat (first | apply Kd.R_alloc | apply Kd.R_drewN | apply Kd.R_drew)); exact Kd.R_mono (Kd.R_far (p := ⟨gb368, 1, none⟩) (Kd.R_far (p := ⟨gb368, 0, none⟩) (Kd.R_types HO_370001.out BK368.out (by decide)) (fun _ hk => hk.2) (.slice Ao77 x370000_2.length co77)) (fun _ hk => hk.2) (.slice Ao80 x370001_1.length co80)) (fun _ hk => trivial), sAIsS99_16, sABelo_16, sAKeep_16⟩

end Go.Proofs.Ytjoghfehmhapbaa.QFnReportsAnyway
