-- Written by a program of this session out of the printer's texts and contracts of its own.
import Derived.Test.YtcjhbmjimjbphaaSq
import Derived.Test.YtcjhbmjimjbphaaQFnDescendsx0
import Derived.Test.YtcjhbmjimjbphaaQFnDescendsx10
namespace Go.Proofs.Ytcjhbmjimjbphaa.QFnDescends
open Go.RowKit Go.Proofs.YtcjhbmjimjbphaaW.PrintWords Go.Proofs.YtcjhbmjimjbphaaW.PrintLast Go.Proofs.YtcjhbmjimjbphaaW.PrintMore Go.Proofs.Ytcjhbmjimjbphaa.Sq
attribute [local go_sem] max2_int min2_int max_two min_two max_three min_three max_four min_four   -- for this text's walks alone
set_option linter.unusedVariables false
set_option linter.unusedSimpArgs false
theorem sAKeep_11 {w W : World} {g : Nat} {row : Option Nat} (h : KeepBut w W g row := by repeat (first | (with_reducible first | exact Aside0.out (by assumption) | apply KeepBut.set_ | apply keep_drewN | apply keep_drew | apply keep_alloc | refine keep_far ?_ (Aside0.out (by assumption)) _) | exact Aside0.out (by assumption))) : KeepBut w W g row := h
theorem sABelo_11 {b : Nat} {w W : World} (h : Below b w W := by repeat (first | (with_reducible first | exact Aside0.out (by assumption) | apply below_alloc | apply pw_below_drewN | apply below_drew1 | refine below_set ?_ (IsS77.ge (Aside0.out (by assumption))) | refine below_set ?_ (Aside0.out (by assumption))) | exact Aside0.out (by assumption))) : Below b w W := h
theorem sAIsS77_11 {w0 W : World} {g : Nat} {f0 : List Int} {f1 : Int} (h : IsS77 w0 W g f0 f1 := by repeat (first | (with_reducible first | exact Aside0.out (by assumption) | apply IsS77.alloc | apply IsS77.drewN | apply IsS77.drew | apply IsS77.set_1 | refine IsS77.far ?_ (Aside0.out (by assumption)) _) | exact Aside0.out (by assumption))) : IsS77 w0 W g f0 f1 := h

/-! ### spec_l1Rd_problem: function 51 -/
mutual
def spec_l1Rd_problem.l0 : Nat → Int → List Int → Int → Int → List Int → List Int → Option (Int × List Int × List Int × (List (S52)) × Int)
 | 0, _, _, _, _, _, _ => none
 | k + 1, x4, x1000, x1001, x262000, x262001, x262002 => if x4 < x262000 then ((spec_l1Rd_below.f x1000 x1001 200).bind fun bt262 => (if x262001.length < 17592186044416 then ((spec_l1Rd_below.f x1000 bt262.2 4).bind fun bt267 => (if x262002.length < 17592186044416 then (spec_l1Rd_problem.l0 k (wrap64 (x4 + 1)) x1000 bt267.2 x262000 (x262001 ++ [wrap64 (bt262.1 - 100)]) (x262002 ++ [wrap64 (1 + bt267.1)])) else (none))) else (none))) else ((spec_l1Rd_size.f x1000 x1001 8 8).bind fun bt272 => (spec_l1Rd_problem.l1 k bt272.1 0 x1000 bt272.2 x262000 x262001 x262002 ([] : List (S52))))
def spec_l1Rd_problem.l1 : Nat → Int → Int → List Int → Int → Int → List Int → List Int → List (S52) → Option (Int × List Int × List Int × (List (S52)) × Int)
 | 0, _, _, _, _, _, _, _, _ => none
 | k + 1, x5, x6, x1000, x1001, x262000, x262001, x262002, x262003 => if x6 < x5 then ((spec_l1Rd_below.f x1000 x1001 400).bind fun bt274 => ((spec_l1Rd_below.f x1000 bt274.2 5).bind fun bt276 => (spec_l1Rd_problem.l2 k x5 x6 0 x1000 bt276.2 x262000 x262001 x262002 x262003 ([] : List Int) (wrap64 (bt274.1 - 200)) (wrap64 (1 + bt276.1))))) else (some (x262000, x262001, x262002, x262003, x1001))
def spec_l1Rd_problem.l2 : Nat → Int → Int → Int → List Int → Int → Int → List Int → List Int → List (S52) → List Int → Int → Int → Option (Int × List Int × List Int × (List (S52)) × Int)
 | 0, _, _, _, _, _, _, _, _, _, _, _, _ => none
 | k + 1, x5, x6, x8, x1000, x1001, x262000, x262001, x262002, x262003, x279000, x279001, x279002 => if x8 < x262000 then ((spec_l1Rd_below.f x1000 x1001 7).bind fun bt279 => (if x279000.length < 17592186044416 then (spec_l1Rd_problem.l2 k x5 x6 (wrap64 (x8 + 1)) x1000 bt279.2 x262000 x262001 x262002 x262003 (x279000 ++ [wrap64 (bt279.1 - 3)]) x279001 x279002) else (none))) else (if x262003.length < 3518437208883 then (spec_l1Rd_problem.l1 k x5 (wrap64 (x6 + 1)) x1000 x1001 x262000 x262001 x262002 (x262003 ++ [(⟨x279000, x279001, x279002⟩ : S52)])) else (none))
end
def spec_l1Rd_problem.f (k : Nat) (s0_0 : List Int) (s0_1 : Int) : Option (Int × List Int × List Int × (List (S52)) × Int) := (spec_l1Rd_below.f s0_0 s0_1 4).bind fun bt259 => (spec_l1Rd_problem.l0 k 0 s0_0 bt259.2 (wrap64 (1 + bt259.1)) ([] : List Int) ([] : List Int))
theorem spec_l1Rd_problem.mono_l : ∀ k, (∀ y0 y1 y2 y3 y4 y5, LeO (spec_l1Rd_problem.l0 k y0 y1 y2 y3 y4 y5) (spec_l1Rd_problem.l0 (k + 1) y0 y1 y2 y3 y4 y5)) ∧ (∀ y0 y1 y2 y3 y4 y5 y6 y7, LeO (spec_l1Rd_problem.l1 k y0 y1 y2 y3 y4 y5 y6 y7) (spec_l1Rd_problem.l1 (k + 1) y0 y1 y2 y3 y4 y5 y6 y7)) ∧ (∀ y0 y1 y2 y3 y4 y5 y6 y7 y8 y9 y10 y11, LeO (spec_l1Rd_problem.l2 k y0 y1 y2 y3 y4 y5 y6 y7 y8 y9 y10 y11) (spec_l1Rd_problem.l2 (k + 1) y0 y1 y2 y3 y4 y5 y6 y7 y8 y9 y10 y11))
 | 0 => ⟨fun _ _ _ _ _ _ r h => by simp [spec_l1Rd_problem.l0] at h, fun _ _ _ _ _ _ _ _ r h => by simp [spec_l1Rd_problem.l1] at h, fun _ _ _ _ _ _ _ _ _ _ _ _ r h => by simp [spec_l1Rd_problem.l2] at h⟩
 | k + 1 => by
  obtain ⟨ih0, ih1, ih2⟩ := spec_l1Rd_problem.mono_l k
  refine ⟨?_, ?_, ?_⟩
  intro y0 y1 y2 y3 y4 y5; unfold spec_l1Rd_problem.l0; rotate_left
  intro y0 y1 y2 y3 y4 y5 y6 y7; unfold spec_l1Rd_problem.l1; rotate_left
  intro y0 y1 y2 y3 y4 y5 y6 y7 y8 y9 y10 y11; unfold spec_l1Rd_problem.l2; rotate_left
  all_goals repeat' first
  | (with_reducible exact ih0 _ _ _ _ _ _)
  | (with_reducible exact ih1 _ _ _ _ _ _ _ _)
  | (with_reducible exact ih2 _ _ _ _ _ _ _ _ _ _ _ _)
  | (with_reducible exact LeO.refl _)
  | (with_reducible exact LeO.none _)
  | (with_reducible refine LeO.ite ?_ ?_)
  | (with_reducible refine LeO.bind ?_ (fun _ => ?_))
  | exact ih0 _ _ _ _ _ _
  | exact ih1 _ _ _ _ _ _ _ _
  | exact ih2 _ _ _ _ _ _ _ _ _ _ _ _
  | exact LeO.none _
  | refine LeO.ite ?_ ?_
  | refine LeO.bind ?_ (fun _ => ?_)
theorem spec_l1Rd_problem.mono : ∀ a0 a1 k, LeO (spec_l1Rd_problem.f k a0 a1) (spec_l1Rd_problem.f (k + 1) a0 a1) := by
 intro a0 a1 k
 obtain ⟨ih0, ih1, ih2⟩ := spec_l1Rd_problem.mono_l k
 unfold spec_l1Rd_problem.f
 repeat' first
   | (with_reducible exact ih0 _ _ _ _ _ _)
   | (with_reducible exact ih1 _ _ _ _ _ _ _ _)
   | (with_reducible exact ih2 _ _ _ _ _ _ _ _ _ _ _ _)
   | (with_reducible exact LeO.refl _)
   | (with_reducible exact LeO.none _)
   | (with_reducible refine LeO.ite ?_ ?_)
   | (with_reducible refine LeO.bind ?_ (fun _ => ?_))
   | exact ih0 _ _ _ _ _ _
   | exact ih1 _ _ _ _ _ _ _ _
   | exact ih2 _ _ _ _ _ _ _ _ _ _ _ _
   | exact LeO.none _
   | refine LeO.ite ?_ ?_
   | refine LeO.bind ?_ (fun _ => ?_)
def spec_l1Rd_problem.T5 : Bool × List (List Nat × List Nat) := (true, [([], []), ([0], [0]), ([], []), ([2], [2]), ([3], [3]), ([4], [4]), ([1, 5, 3], [1, 5]), ([0, 1, 2, 3, 4, 5, 6], []), ([7, 6, 6, 0, 1, 2, 3, 4, 5, 6], [6, 7])])
def spec_l1Rd_problem.B5 : List Nat := [0, 1, 0, 4, 12, 28, 63, 127, 255]
theorem spec_l1Rd_problem.tab5 : rtab .any (opsOf Try.f51 5) = spec_l1Rd_problem.T5 := by kernel_rfl
theorem spec_l1Rd_problem.bits5 : waitsOk spec_l1Rd_problem.T5.2 spec_l1Rd_problem.B5 = true := by kernel_rfl
def spec_l1Rd_problem.T6 : Bool × List (List Nat × List Nat) := (true, [([], []), ([0], [0]), ([], []), ([2], [2]), ([3], [3]), ([4], [4]), ([1, 5, 3], [1, 5]), ([0, 1, 2, 3, 4, 5, 6], []), ([7, 6, 6, 0, 1, 2, 3, 4, 5, 6], [6, 7])])
def spec_l1Rd_problem.B6 : List Nat := [0, 1, 0, 4, 12, 28, 63, 127, 255]
theorem spec_l1Rd_problem.tab6 : rtab .any (opsOf Try.f51 6) = spec_l1Rd_problem.T6 := by kernel_rfl
theorem spec_l1Rd_problem.bits6 : waitsOk spec_l1Rd_problem.T6.2 spec_l1Rd_problem.B6 = true := by kernel_rfl
def spec_l1Rd_problem.T15 : Bool × List (List Nat × List Nat) := (true, [([], []), ([0], [0]), ([], []), ([2], [2]), ([3], [3]), ([4], [4]), ([1, 5, 3], [1, 5]), ([0, 1, 2, 3, 4, 5, 6], []), ([7, 6, 6, 0, 1, 2, 3, 4, 5, 6], [6, 7])])
def spec_l1Rd_problem.B15 : List Nat := [0, 1, 0, 4, 12, 28, 63, 127, 255]
theorem spec_l1Rd_problem.tab15 : rtab .any (opsOf Try.f51 15) = spec_l1Rd_problem.T15 := by kernel_rfl
theorem spec_l1Rd_problem.bits15 : waitsOk spec_l1Rd_problem.T15.2 spec_l1Rd_problem.B15 = true := by kernel_rfl
set_option maxHeartbeats 8000000 in
set_option maxRecDepth 100000 in
theorem spec_l1Rd_problem.calls (k : Nat) (g : Nat) (s0_0 : List Int) (s0_1 : Int) (r1 : Int) (r2 : List Int) (r3 : List Int) (r4 : List (S52)) (r5 : Int) (w0 w : World) (hI : IsS77 w0 w g s0_0 s0_1) (hB : Below w0.heap.size w0 w) (h : spec_l1Rd_problem.f k s0_0 s0_1 = some (r1, r2, r3, r4, r5)) :
  Calls Try.prog 51 #[.pointer (some ⟨g, 0, none⟩)] w fun e w' => ∃ v1_ v2_ v3_ : Value, e = .returned (.agg #[.int .i64 r1, v1_, v2_, v3_]) ∧ Kd.R (Kd.int .i64) 2 w' w.heap.size (fun k_ => some k_ ≠ (v2_ : Value).ownBlock) v1_ r2 ∧ Kd.R (Kd.int .i64) 2 w' w.heap.size (fun k_ => some k_ ≠ (v1_ : Value).ownBlock) v2_ r3 ∧ Kd.S k52 52 w' w.heap.size (fun k_ => some k_ ≠ (v1_ : Value).ownBlock ∧ some k_ ≠ (v2_ : Value).ownBlock) v3_ r4 ∧ IsS77 w0 w' g s0_0 r5 ∧ Below w0.heap.size w0 w' ∧ KeepBut w w' g none := by
 have hu30 := Try.underlying30; have hu52 := Try.underlying52; have HI0 := Aside0.mk hI
 have HK := Aside0.mk (KeepBut.refl w g none)
 have HL := Aside0.mk hB.size; clear hI; have HW0 := Aside0.mk hB.size; have HB := Aside0.mk hB; clear hB
 have H : ((spec_l1Rd_below.f s0_0 s0_1 4).bind fun bt259 => (spec_l1Rd_problem.l0 k 0 s0_0 bt259.2 (wrap64 (1 + bt259.1)) ([] : List Int) ([] : List Int))) = some (r1, r2, r3, r4, r5) := h
 clear h; replace H := Option.bind_eq_some_iff.mp H
 obtain ⟨⟨t259, t260⟩, A20, H⟩ := H
 replace H : (spec_l1Rd_problem.l0 k 0 s0_0 t260 (wrap64 (1 + t259)) ([] : List Int) ([] : List Int)) = some (r1, r2, r3, r4, r5) := H
 have A2 := Aside0.mk A20; clear A20; have H' := Aside0.mk H; clear H
 go_enter Try.func51, Try.ntmps51
 go_wp2_with (first | ((with_reducible refine gate_dst (N := 2) rfl ?_); refine box_event ?hg (N := 2) ?hd (cs := #[.int .i64 0, .slice none 0 0, .slice none 0 0, .slice none 0 0]) (t := 30) ?hr ?_; (case hd => rfl); (case hg => rfl); (case hr => first | (go_simp; done) | (go_simp; rfl)); intro gb258 hg w3 hbox hb; replace HB := Aside0.mk (below_step sABelo_11 hb); have BK258 := Aside0.mk (hbox); have GW258 := Aside0.mk ((by rw [hg]; exact (keep_size (w := w) (g := g) (row := none) sAKeep_11) : w.heap.size ≤ gb258)); have GE258 := Aside0.mk ((Nat.le_trans HW0.out (by rw [hg]; exact (keep_size (w := w) (g := g) (row := none) sAKeep_11) : w.heap.size ≤ gb258) : w0.heap.size ≤ gb258)); replace HK := Aside0.mk (KeepBut.trans (w := w) (row := none) sAKeep_11 (KeepBut.of_below hb g none) (.inl rfl)); have NB0_258 := Aside0.mk ((by rw [hg]; exact Nat.ne_of_lt (IsS77.lt (show IsS77 w0 _ g s0_0 s0_1 from sAIsS77_11)) : g ≠ gb258)); have NB258_0 := Aside0.mk ((by rw [hg]; exact Nat.ne_of_gt (IsS77.lt (show IsS77 w0 _ g s0_0 s0_1 from sAIsS77_11)) : gb258 ≠ g)); replace HI0 := Aside0.mk (IsS77.below sAIsS77_11 hb); clear hb hbox hg) | ((with_reducible refine gate_callee (f := 45) rfl ?_); refine gL_ (some 10) Try.func45 #[.pointer (some ⟨g, 0, none⟩), .int .i64 4] ?_; (with_reducible refine (spec_l1Rd_below.calls g s0_0 s0_1 4 t259 t260 w0 _ ?side1 ?side2 A2.out).mono ?_); (case side1 => repeat (first | (with_reducible first | exact HI0.out | apply IsS77.alloc | apply IsS77.drewN | apply IsS77.drew | apply IsS77.set_1 | refine IsS77.far ?_ NB0_258.out _) | exact HI0.out)); (case side2 => repeat (first | (with_reducible first | exact HB.out | apply below_alloc | apply pw_below_drewN | apply below_drew1 | refine below_set ?_ (IsS77.ge HI0.out) | refine below_set ?_ GE258.out) | exact HB.out)); rintro e w4 ⟨rfl, hi, hb, hk⟩; refine ⟨_, rfl, ?_⟩; replace BK258 := Aside0.mk (KeepBut.blk hk (g' := gb258) (o := .cells #[.int .i64 0, .slice none 0 0, .slice none 0 0, .slice none 0 0] 30 (0, 0)) (bT_ BK258) NB258_0.out (by simp)); replace HK := Aside0.mk (KeepBut.trans (w := w) (row := none) sAKeep_11 hk (.inl rfl)); replace HB := Aside0.mk (hb); replace HI0 := Aside0.mk (hi); (try clear hb); (try clear hk); (try clear hi)) | ((with_reducible refine gate_dst (N := 3) rfl ?_); refine box_event ?hg (N := 3) ?hd (cs := #[.int .i64 0, .slice none 0 0, .slice none 0 0, .slice none 0 0]) (t := 30) ?hr ?_; (case hd => rfl); (case hg => rfl); (case hr => first | (go_simp; done) | (go_simp; rfl)); intro gb261 hg w5 hbox hb; replace HB := Aside0.mk (below_step sABelo_11 hb); have BK261 := Aside0.mk (hbox); have GW261 := Aside0.mk ((by rw [hg]; exact (keep_size (w := w) (g := g) (row := none) sAKeep_11) : w.heap.size ≤ gb261)); have GE261 := Aside0.mk ((Nat.le_trans HW0.out (by rw [hg]; exact (keep_size (w := w) (g := g) (row := none) sAKeep_11) : w.heap.size ≤ gb261) : w0.heap.size ≤ gb261)); replace HK := Aside0.mk (KeepBut.trans (w := w) (row := none) sAKeep_11 (KeepBut.of_below hb g none) (.inl rfl)); have NB258_261 := nL_ BK258 hg; have NB261_258 := nG_ BK258 hg; replace BK258 := bB_ BK258 hb; have NB0_261 := Aside0.mk ((by rw [hg]; exact Nat.ne_of_lt (IsS77.lt (show IsS77 w0 _ g s0_0 t260 from sAIsS77_11)) : g ≠ gb261)); have NB261_0 := Aside0.mk ((by rw [hg]; exact Nat.ne_of_gt (IsS77.lt (show IsS77 w0 _ g s0_0 t260 from sAIsS77_11)) : gb261 ≠ g)); replace HI0 := Aside0.mk (IsS77.below sAIsS77_11 hb); clear hb hbox hg; have hnb6 := NB261_258.out; have hnc6 := NB258_261.out; have hnb7 := NB261_0.out; have hnc7 := NB0_261.out; obtain ⟨hcz8_0, hcz8_1, hcz8_2, hcz8_3, hfz8_0, hfz8_1, hfz8_2, hfz8_3⟩ := cf4_ BK261))
 go_loopg [4] k (fun kq v4 w' => ∃ (x4_1 : Int) (x1001_1 : Int) (x262001_1 : List Int) (x262002_1 : List Int) (u262001 : Value) (u262002 : Value), v4 = .int .i64 x4_1 ∧ Aside0 (spec_l1Rd_problem.l0 kq x4_1 s0_0 x1001_1 (wrap64 (1 + t259)) x262001_1 x262002_1 = some (r1, r2, r3, r4, r5)) ∧ Aside0 (kq ≤ k) ∧ Aside0 (Kd.R (Kd.int .i64) 2 w' w.heap.size (fun k_ => some k_ ≠ (u262002 : Value).ownBlock) u262001 x262001_1) ∧ Aside0 (Kd.R (Kd.int .i64) 2 w' w.heap.size (fun k_ => some k_ ≠ (u262001 : Value).ownBlock) u262002 x262002_1) ∧ Aside0 (w'.heap[gb258]? = some (.cells #[.int .i64 0, (.slice none 0 0), (.slice none 0 0), (.slice none 0 0)] 30 (0, 0))) ∧ Aside0 (w'.heap[gb261]? = some (.cells #[.int .i64 (wrap64 (1 + t259)), u262001, u262002, (.slice none 0 0)] 30 (0, 0))) ∧ Aside0 (IsS77 w0 w' g s0_0 x1001_1) ∧ Aside0 (KeepBut w w' g none) ∧ Aside0 (Below w0.heap.size w0 w'))
 case atStart => exact ⟨(0), (t260), (([] : List Int)), (([] : List Int)), (.slice none 0 0), (.slice none 0 0), (by first | rfl | (simp; done) | (simp [*]; done)), H', ⟨Nat.le_refl _⟩, ⟨by first | exact Kd.R_nil _ _ _ _ _ | exact Kd.N_nil _ _ _ _ _ | exact Kd.V_nil _ _ _ _ _ | exact Kd.Q_nil _ _ _ _ _ | exact Kd.S_nil _ _ _ _ _⟩, ⟨by first | exact Kd.R_nil _ _ _ _ _ | exact Kd.N_nil _ _ _ _ _ | exact Kd.V_nil _ _ _ _ _ | exact Kd.Q_nil _ _ _ _ _ | exact Kd.S_nil _ _ _ _ _⟩, ⟨bF_ BK258 NB258_261⟩, ⟨bP_ BK261⟩, ⟨sAIsS77_11⟩, ⟨sAKeep_11⟩, ⟨sABelo_11⟩⟩
 case round =>
  clear H'; (try clear hcz8_0); (try clear hcz8_1); (try clear hcz8_2); (try clear hcz8_3); (try clear hfz8_0); (try clear hfz8_1); (try clear hfz8_2); (try clear hfz8_3)
  obtain ⟨x4_1, x1001_1, x262001_1, x262002_1, u262001, u262002, rfl, HA, HK1, HO_262001, HO_262002, BK258, BK261, HI0, HK, HB⟩ := hrel
  cases gk with
  | zero => exact absurd HA.out (by simp [spec_l1Rd_problem.l0])
  | succ k1 =>
   have H := HA.out; clear HA
   simp only [spec_l1Rd_problem.l0] at H
   by_cases c9 : x4_1 < (wrap64 (1 + t259))
   ·rw [if_pos c9] at H
    have c9b0 := decide_eq_true c9
    clear c9; replace H := Option.bind_eq_some_iff.mp H
    obtain ⟨⟨t262, t263⟩, A100, H⟩ := H
    replace H : (if x262001_1.length < 17592186044416 then ((spec_l1Rd_below.f s0_0 t263 4).bind fun bt267 => (if x262002_1.length < 17592186044416 then (spec_l1Rd_problem.l0 k1 (wrap64 (x4_1 + 1)) s0_0 bt267.2 (wrap64 (1 + t259)) (x262001_1 ++ [wrap64 (t262 - 100)]) (x262002_1 ++ [wrap64 (1 + bt267.1)])) else (none))) else (none)) = some (r1, r2, r3, r4, r5) := H
    have A10 := Aside0.mk A100; clear A100
    obtain ⟨c11, H⟩ := ifS_ H
    have LMc11 := Aside0.mk c11; clear c11
    obtain ⟨y264, hy264⟩ : ∃ y_ : List Int, y_ = (x262001_1 ++ [wrap64 (t262 - 100)]) := ⟨_, rfl⟩
    replace H : ((spec_l1Rd_below.f s0_0 t263 4).bind fun bt267 => (if x262002_1.length < 17592186044416 then (spec_l1Rd_problem.l0 k1 (wrap64 (x4_1 + 1)) s0_0 bt267.2 (wrap64 (1 + t259)) y264 (x262002_1 ++ [wrap64 (1 + bt267.1)])) else (none))) = some (r1, r2, r3, r4, r5) := by first | (rw [hy264]; with_reducible exact H) | (have H2_ := (Option.bind_some _ _).symm.trans H; rw [hy264]; with_reducible exact H2_) | (have H2_ := (Option.bind_some _ _).symm.trans H; with_reducible exact H2_) | with_reducible exact H | (rw [hy264]; exact H) | exact H
    have Ny264 := Aside0.mk hy264; clear hy264; replace H := Option.bind_eq_some_iff.mp H
    obtain ⟨⟨t267, t268⟩, A120, H⟩ := H
    replace H : (if x262002_1.length < 17592186044416 then (spec_l1Rd_problem.l0 k1 (wrap64 (x4_1 + 1)) s0_0 t268 (wrap64 (1 + t259)) y264 (x262002_1 ++ [wrap64 (1 + t267)])) else (none)) = some (r1, r2, r3, r4, r5) := H
    have A12 := Aside0.mk A120; clear A120
    obtain ⟨c13, H⟩ := ifS_ H
    have LMc13 := Aside0.mk c13; clear c13
    obtain ⟨y269, hy269⟩ : ∃ y_ : List Int, y_ = (x262002_1 ++ [wrap64 (1 + t267)]) := ⟨_, rfl⟩
    replace H : (spec_l1Rd_problem.l0 k1 (wrap64 (x4_1 + 1)) s0_0 t268 (wrap64 (1 + t259)) y264 y269) = some (r1, r2, r3, r4, r5) := by first | (rw [hy269]; with_reducible exact H) | (have H2_ := (Option.bind_some _ _).symm.trans H; rw [hy269]; with_reducible exact H2_) | (have H2_ := (Option.bind_some _ _).symm.trans H; with_reducible exact H2_) | with_reducible exact H | (rw [hy269]; exact H) | exact H
    have Ny269 := Aside0.mk hy269; clear hy269; have H' := Aside0.mk H; clear H; have hnb14 := NB261_258.out; have hnc14 := NB258_261.out; have hnb15 := NB261_0.out; have hnc15 := NB0_261.out
    obtain ⟨hcz16_0, hcz16_1, hcz16_2, hcz16_3, hfz16_0, hfz16_1, hfz16_2, hfz16_3⟩ := cf4_ BK261
    try go_wp2
    replace HO_262001 := Aside0.mk (Kd.R_drew HO_262001.out)
    replace HO_262002 := Aside0.mk (Kd.R_drew HO_262002.out)
    replace BK258 := Aside0.mk (blk_drew BK258.out)
    replace BK261 := Aside0.mk (blk_drew BK261.out)
    replace HI0 := Aside0.mk (IsS77.drew HI0.out)
    replace HK := Aside0.mk (keep_drew HK.out)
    replace HB := Aside0.mk (below_drew1 HB.out)
    refine start_ (n := 9) (S := fun w' => w'.cell? ⟨gb261, 0, none⟩ = some (.int .i64 (wrap64 (1 + t259))) ∧ w'.cell? ⟨gb261, 1, none⟩ = some (u262001) ∧ w'.cell? ⟨gb261, 2, none⟩ = some (u262002) ∧ w'.cell? ⟨gb261, 3, none⟩ = some (.slice none 0 0)) (ds := [8]) #[false, false, false, false, false, false, false, false, false] (by kernel_rfl) rfl rfl ⟨(blk_cell BK261.out 0).trans rfl, (blk_cell BK261.out 1).trans rfl, (blk_cell BK261.out 2).trans rfl, (blk_cell BK261.out 3).trans rfl⟩ (fun hHeld => ?_); refine with_tabW spec_l1Rd_problem.tab5 spec_l1Rd_problem.bits5 (fun HT_ HW_ => ?_)
    generalize wr.drew = w17 at HO_262001 HO_262002 BK258 BK261 HI0 HK HB hHeld ⊢
    refine pT_ 0 (some 19) #[true, false, false, false, false, false, false, false, false] HT_ ?_
    refine pT_ 2 (some 21) #[true, false, true, false, false, false, false, false, false] HT_ ?_
    refine tT_ 1 (some 20) #[true, true, true, false, false, false, false, false, false] HT_ HW_ hHeld ?_ (hy := by rintro w' ⟨s0, s1, s2, s3⟩; go_simp; with_reducible rfl)
    refine one_ (i := 3) (N := some 22) #[true, true, true, true, false, false, false, false, false] rfl rfl (one_of HT_.out (by kernel_rfl)) (by decide) (fun K hK => ?_)
    refine goes_ Try.func45 (by kernel_rfl) rfl #[.pointer (some ⟨g, 0, none⟩), .int .i64 200] (by rfl) rfl rfl (by (try simp only [List.map_toArray, List.map_cons, List.map_nil]); first | done | rfl | (simp only [List.length_drop, List.length_take]; rfl)) ?_
    with_reducible refine (spec_l1Rd_below.calls g s0_0 x1001_1 200 t262 t263 w0 _ ?side1 ?side2 A10.out).mono ?_
    (case side1 => repeat (first | (with_reducible first | exact HI0.out | apply IsS77.alloc | apply IsS77.drewN | apply IsS77.drew | apply IsS77.set_1 | refine IsS77.far ?_ NB0_258.out _ | refine IsS77.far ?_ NB0_261.out _) | exact HI0.out))
    (case side2 => repeat (first | (with_reducible first | exact HB.out | apply below_alloc | apply pw_below_drewN | apply below_drew1 | refine below_set ?_ (IsS77.ge HI0.out) | refine below_set ?_ GE258.out | refine below_set ?_ GE261.out) | exact HB.out))
    rintro e w18 ⟨rfl, hi, hb, hk⟩
    refine ⟨_, rfl, ?_⟩
    replace HO_262001 := Aside0.mk (Kd.R_mono (Kd.R_keep (IsS77.apart (show IsS77 w0 _ g s0_0 x1001_1 from sAIsS77_11) (rT_ HO_262001) (by decide)) hk (fun _ h => h.2)) (fun _ h => h.1))
    replace HO_262002 := Aside0.mk (Kd.R_mono (Kd.R_keep (IsS77.apart (show IsS77 w0 _ g s0_0 x1001_1 from sAIsS77_11) (rT_ HO_262002) (by decide)) hk (fun _ h => h.2)) (fun _ h => h.1))
    replace BK258 := Aside0.mk (KeepBut.blk hk (g' := gb258) (o := .cells #[.int .i64 0, .slice none 0 0, .slice none 0 0, .slice none 0 0] 30 (0, 0)) (bT_ BK258) NB258_0.out (by simp))
    replace BK261 := Aside0.mk (KeepBut.blk hk (g' := gb261) (o := .cells #[.int .i64 (wrap64 (1 + t259)), u262001, u262002, .slice none 0 0] 30 (0, 0)) (bT_ BK261) NB261_0.out (by simp))
    replace HK := Aside0.mk (KeepBut.trans (w := w) (row := none) sAKeep_11 hk (.inl rfl))
    replace HB := Aside0.mk (hb)
    replace HI0 := Aside0.mk (hi)
    (try clear hb); (try clear hk); (try clear hi)
    refine hK.out _ _ ⟨(blk_cell BK261.out 0).trans rfl, (blk_cell BK261.out 1).trans rfl, (blk_cell BK261.out 2).trans rfl, (blk_cell BK261.out 3).trans rfl⟩ (fun hHeld => ?_)
    clear hK K
    refine nS_ (some 22) ?_
    refine pT_ 4 (some 23) #[true, true, true, true, true, false, false, false, false] HT_ ?_
    refine one_ (i := 5) (N := some 24) #[true, true, true, true, true, true, false, false, false] rfl rfl (one_of HT_.out (by kernel_rfl)) (by decide) (fun K hK => ?_)
    refine value_ (w1 := ?_) (v := ?_) (by rfl) rfl ?_ ?_
    rotate_left 2
    ·go_simp
     constructor
     ·rfl
     ·rfl
    refine hK.out _ _ ⟨(blk_cell (blk_alloc BK261.out _) 0).trans rfl, (blk_cell (blk_alloc BK261.out _) 1).trans rfl, (blk_cell (blk_alloc BK261.out _) 2).trans rfl, (blk_cell (blk_alloc BK261.out _) 3).trans rfl⟩ (fun hHeld => ?_)
    clear hK K
    refine nS_ (some 24) ?_
    refine one_ (i := 6) (N := some 25) #[true, true, true, true, true, true, true, false, false] rfl rfl (one_of HT_.out (by kernel_rfl)) (by decide) (fun K hK => ?_)
    refine Kd.R_append_step (Kd.int .i64) w.heap.size (by rfl) (.tmp 20) (.tmp 24) 22 2 (.int .i64 0) 8 rfl Try.underlying22 info2 rfl (by decide) (by omega) u262001 x262001_1 (wrap64 (t262 - 100)) [.int .i64 (wrap64 (t262 - 100))] (fun k_ => some k_ ≠ (u262002 : Value).ownBlock) (fun _ => False) rfl rfl ?aP (fun _ hk => hk.elim) ?aF ?aO (Below.refl _ _) ?aS ?aL ?_
    (case aP => exact rfl)
    (case aF => exact (fun k_ hk => Kd.fresh' (rLt_ HO_262002) k_ hk))
    (case aO => exact (rT_ HO_262001))
    (case aS => exact (keep_size (w := w) (g := g) (row := none) sAKeep_11))
    (case aL => have := LMc11.out; omega)
    intro v265 w19 ho hb hg hat
    rw [← Ny264.out] at ho
    replace HO_262002 := Aside0.mk (Kd.R_after (ok := (fun _ => True)) (rM_ HO_262002 (fun _ hk => ⟨trivial, hk⟩)) hg hat)
    replace BK258 := Aside0.mk (blk_grown (g := gb258) (o := .cells #[.int .i64 0, .slice none 0 0, .slice none 0 0, .slice none 0 0] 30 (0, 0)) (bT_ BK258) hg (Kd.R_ne HO_262001.out BK258.out (by decide)))
    replace BK261 := Aside0.mk (blk_grown (g := gb261) (o := .cells #[.int .i64 (wrap64 (1 + t259)), u262001, u262002, .slice none 0 0] 30 (0, 0)) (bT_ BK261) hg (Kd.R_ne HO_262001.out BK261.out (by decide)))
    replace HB := Aside0.mk (below_weaken sABelo_11 HL.out hb)
    replace HI0 := Aside0.mk (IsS77.grown sAIsS77_11 hg (IsS77.own_ne HI0.out HO_262001.out (by decide)))
    replace HK := Aside0.mk (KeepBut.trans (w := w) (row := none) sAKeep_11 (KeepBut.of_grown hg g) (Kd.R_base2 HO_262001.out))
    have HO266 := Aside0.mk (ho)
    clear HO_262001 ho hb hg hat
    obtain ⟨Ao20, co20, eo20⟩ := Kd.R_slice HO266.out
    (first | subst eo20 | (injection eo20 with f1_ f2_ f3_; have f4_ := f1_.symm; have f5_ := f3_.symm; clear f1_ f2_ f3_; subst f4_; subst f5_))
    refine hK.out _ _ ⟨(blk_cell BK261.out 0).trans rfl, (blk_cell BK261.out 1).trans rfl, (blk_cell BK261.out 2).trans rfl, (blk_cell BK261.out 3).trans rfl⟩ (fun hHeld => ?_)
    clear hK K
    refine nS_ (some 25) ?_
    refine pT_ 7 (some 26) #[true, true, true, true, true, true, true, true, false] HT_ ?_
    refine last_ (i := 8) (N := none) #[true, true, true, true, true, true, true, true, true] rfl rfl (one_of HT_.out (by kernel_rfl)) (by decide) (fun K hK => ?_)
    have hs21 : w19.cell? ⟨gb261, 1, none⟩ = some (u262001) := (blk_cell BK261.out 1).trans rfl
    have hfs21 := blk_frozen BK261.out 1; have hns21_0 := NB258_261.out; have hms21_0 := NB261_258.out
    refine skip_ (w1 := ?_) (by rfl) rfl ?_ ?_
    rotate_left
    ·go_simp
     rfl
    refine hK.out _ _ ?_
    clear hK K
    refine done_ (done_of HT_.out (by kernel_rfl)) ?_
    try go_wp2
    have n0_ : Aside0 (Kd.R (Kd.int .i64) 2 (w19.setCell ⟨gb261, 1, none⟩ (.slice Ao20 y264.length co20)) w.heap.size (fun k_ => some k_ ≠ (.slice Ao20 y264.length co20 : Value).ownBlock) u262002 x262002_1) := ⟨rFM_ HO_262002 BK261⟩
    have n1_ : Aside0 (Kd.R (Kd.int .i64) 2 (w19.setCell ⟨gb261, 1, none⟩ (.slice Ao20 y264.length co20)) w.heap.size (fun k_ => some k_ ≠ (u262002 : Value).ownBlock) (.slice Ao20 y264.length co20) y264) := ⟨rFM_ HO266 BK261⟩
    have n2_ : Aside0 ((w19.setCell ⟨gb261, 1, none⟩ (.slice Ao20 y264.length co20)).heap[gb258]? = some (.cells #[.int .i64 0, .slice none 0 0, .slice none 0 0, .slice none 0 0] 30 (0, 0))) := ⟨bF_ BK258 NB258_261⟩
    have n3_ : Aside0 ((w19.setCell ⟨gb261, 1, none⟩ (.slice Ao20 y264.length co20)).heap[gb261]? = some (.cells #[.int .i64 (wrap64 (1 + t259)), .slice Ao20 y264.length co20, u262002, .slice none 0 0] 30 (0, 0))) := ⟨bP_ BK261⟩
    have n4_ : Aside0 (IsS77 w0 (w19.setCell ⟨gb261, 1, none⟩ (.slice Ao20 y264.length co20)) g s0_0 t263) := ⟨sAIsS77_11⟩
    have n5_ : Aside0 (KeepBut w (w19.setCell ⟨gb261, 1, none⟩ (.slice Ao20 y264.length co20)) g none) := ⟨sAKeep_11⟩
    have n6_ : Aside0 (Below w0.heap.size w0 (w19.setCell ⟨gb261, 1, none⟩ (.slice Ao20 y264.length co20))) := ⟨sABelo_11⟩
    (try clear HO_262002); (try clear HO266); (try clear BK258); (try clear BK261); (try clear HI0); (try clear HK); (try clear HB)
    generalize (w19.setCell ⟨gb261, 1, none⟩ (.slice Ao20 y264.length co20)) = w22 at n0_ n1_ n2_ n3_ n4_ n5_ n6_ ⊢
    have HO_262002 := n0_; have HO266 := n1_; have BK258 := n2_; have BK261 := n3_; have HI0 := n4_; have HK := n5_; have HB := n6_; clear n0_ n1_ n2_ n3_ n4_ n5_ n6_
    replace HO_262002 := Aside0.mk (Kd.R_drew HO_262002.out)
    replace HO266 := Aside0.mk (Kd.R_drew HO266.out)
    replace BK258 := Aside0.mk (blk_drew BK258.out)
    replace BK261 := Aside0.mk (blk_drew BK261.out)
    replace HI0 := Aside0.mk (IsS77.drew HI0.out)
    replace HK := Aside0.mk (keep_drew HK.out)
    replace HB := Aside0.mk (below_drew1 HB.out)
    refine start_ (n := 9) (S := fun w' => w'.cell? ⟨gb261, 0, none⟩ = some (.int .i64 (wrap64 (1 + t259))) ∧ w'.cell? ⟨gb261, 1, none⟩ = some (.slice Ao20 y264.length co20) ∧ w'.cell? ⟨gb261, 2, none⟩ = some (u262002) ∧ w'.cell? ⟨gb261, 3, none⟩ = some (.slice none 0 0)) (ds := [8]) #[false, false, false, false, false, false, false, false, false] (by kernel_rfl) rfl rfl ⟨(blk_cell BK261.out 0).trans rfl, (blk_cell BK261.out 1).trans rfl, (blk_cell BK261.out 2).trans rfl, (blk_cell BK261.out 3).trans rfl⟩ (fun hHeld => ?_); refine with_tabW spec_l1Rd_problem.tab6 spec_l1Rd_problem.bits6 (fun HT_ HW_ => ?_)
    generalize w22.drew = w23 at HO_262002 HO266 BK258 BK261 HI0 HK HB hHeld ⊢
    refine pT_ 0 (some 27) #[true, false, false, false, false, false, false, false, false] HT_ ?_
    refine pT_ 2 (some 29) #[true, false, true, false, false, false, false, false, false] HT_ ?_
    refine tT_ 1 (some 28) #[true, true, true, false, false, false, false, false, false] HT_ HW_ hHeld ?_ (hy := by rintro w' ⟨s0, s1, s2, s3⟩; go_simp; with_reducible rfl)
    refine one_ (i := 3) (N := some 30) #[true, true, true, true, false, false, false, false, false] rfl rfl (one_of HT_.out (by kernel_rfl)) (by decide) (fun K hK => ?_)
    refine goes_ Try.func45 (by kernel_rfl) rfl #[.pointer (some ⟨g, 0, none⟩), .int .i64 4] (by rfl) rfl rfl (by (try simp only [List.map_toArray, List.map_cons, List.map_nil]); first | done | rfl | (simp only [List.length_drop, List.length_take]; rfl)) ?_
    with_reducible refine (spec_l1Rd_below.calls g s0_0 t263 4 t267 t268 w0 _ ?side1 ?side2 A12.out).mono ?_
    (case side1 => repeat (first | (with_reducible first | exact HI0.out | apply IsS77.alloc | apply IsS77.drewN | apply IsS77.drew | apply IsS77.set_1 | refine IsS77.far ?_ NB0_258.out _ | refine IsS77.far ?_ NB0_261.out _) | exact HI0.out))
    (case side2 => repeat (first | (with_reducible first | exact HB.out | apply below_alloc | apply pw_below_drewN | apply below_drew1 | refine below_set ?_ (IsS77.ge HI0.out) | refine below_set ?_ GE258.out | refine below_set ?_ GE261.out) | exact HB.out))
    rintro e w24 ⟨rfl, hi, hb, hk⟩
    refine ⟨_, rfl, ?_⟩
    replace HO_262002 := Aside0.mk (Kd.R_mono (Kd.R_keep (IsS77.apart (show IsS77 w0 _ g s0_0 t263 from sAIsS77_11) (rT_ HO_262002) (by decide)) hk (fun _ h => h.2)) (fun _ h => h.1))
    replace BK258 := Aside0.mk (KeepBut.blk hk (g' := gb258) (o := .cells #[.int .i64 0, .slice none 0 0, .slice none 0 0, .slice none 0 0] 30 (0, 0)) (bT_ BK258) NB258_0.out (by simp))
    replace BK261 := Aside0.mk (KeepBut.blk hk (g' := gb261) (o := .cells #[.int .i64 (wrap64 (1 + t259)), .slice Ao20 y264.length co20, u262002, .slice none 0 0] 30 (0, 0)) (bT_ BK261) NB261_0.out (by simp))
    replace HO266 := Aside0.mk (Kd.R_mono (Kd.R_keep (IsS77.apart (show IsS77 w0 _ g s0_0 t263 from sAIsS77_11) (rT_ HO266) (by decide)) hk (fun _ h => h.2)) (fun _ h => h.1))
    replace HK := Aside0.mk (KeepBut.trans (w := w) (row := none) sAKeep_11 hk (.inl rfl))
    replace HB := Aside0.mk (hb)
    replace HI0 := Aside0.mk (hi)
    (try clear hb); (try clear hk); (try clear hi)
    refine hK.out _ _ ⟨(blk_cell BK261.out 0).trans rfl, (blk_cell BK261.out 1).trans rfl, (blk_cell BK261.out 2).trans rfl, (blk_cell BK261.out 3).trans rfl⟩ (fun hHeld => ?_)
    clear hK K
    refine nS_ (some 30) ?_
    refine pT_ 4 (some 31) #[true, true, true, true, true, false, false, false, false] HT_ ?_
    refine one_ (i := 5) (N := some 32) #[true, true, true, true, true, true, false, false, false] rfl rfl (one_of HT_.out (by kernel_rfl)) (by decide) (fun K hK => ?_)
    refine value_ (w1 := ?_) (v := ?_) (by rfl) rfl ?_ ?_
    rotate_left 2
    ·go_simp
     constructor
     ·rfl
     ·rfl
    refine hK.out _ _ ⟨(blk_cell (blk_alloc BK261.out _) 0).trans rfl, (blk_cell (blk_alloc BK261.out _) 1).trans rfl, (blk_cell (blk_alloc BK261.out _) 2).trans rfl, (blk_cell (blk_alloc BK261.out _) 3).trans rfl⟩ (fun hHeld => ?_)
    clear hK K
    refine nS_ (some 32) ?_
    refine one_ (i := 6) (N := some 33) #[true, true, true, true, true, true, true, false, false] rfl rfl (one_of HT_.out (by kernel_rfl)) (by decide) (fun K hK => ?_)
    refine Kd.R_append_step (Kd.int .i64) w.heap.size (by rfl) (.tmp 28) (.tmp 32) 22 2 (.int .i64 0) 8 rfl Try.underlying22 info2 rfl (by decide) (by omega) u262002 x262002_1 (wrap64 (1 + t267)) [.int .i64 (wrap64 (1 + t267))] (fun k_ => some k_ ≠ (.slice Ao20 y264.length co20 : Value).ownBlock) (fun _ => False) rfl rfl ?aP (fun _ hk => hk.elim) ?aF ?aO (Below.refl _ _) ?aS ?aL ?_
    (case aP => exact rfl)
    (case aF => exact (fun k_ hk => Kd.fresh' (rLt_ HO266) k_ hk))
    (case aO => exact (rT_ HO_262002))
    (case aS => exact (keep_size (w := w) (g := g) (row := none) sAKeep_11))
    (case aL => have := LMc13.out; omega)
    intro v270 w25 ho hb hg hat
    rw [← Ny269.out] at ho
    replace BK258 := Aside0.mk (blk_grown (g := gb258) (o := .cells #[.int .i64 0, .slice none 0 0, .slice none 0 0, .slice none 0 0] 30 (0, 0)) (bT_ BK258) hg (Kd.R_ne HO_262002.out BK258.out (by decide)))
    replace BK261 := Aside0.mk (blk_grown (g := gb261) (o := .cells #[.int .i64 (wrap64 (1 + t259)), .slice Ao20 y264.length co20, u262002, .slice none 0 0] 30 (0, 0)) (bT_ BK261) hg (Kd.R_ne HO_262002.out BK261.out (by decide)))
    replace HO266 := Aside0.mk (Kd.R_after (ok := (fun _ => True)) (rM_ HO266 (fun _ hk => ⟨trivial, hk⟩)) hg hat)
    replace HB := Aside0.mk (below_weaken sABelo_11 HL.out hb)
    replace HI0 := Aside0.mk (IsS77.grown sAIsS77_11 hg (IsS77.own_ne HI0.out HO_262002.out (by decide)))
    replace HK := Aside0.mk (KeepBut.trans (w := w) (row := none) sAKeep_11 (KeepBut.of_grown hg g) (Kd.R_base2 HO_262002.out))
    have HO271 := Aside0.mk (ho)
    clear HO_262002 ho hb hg hat
    obtain ⟨Ao26, co26, eo26⟩ := Kd.R_slice HO271.out
    (first | subst eo26 | (injection eo26 with f1_ f2_ f3_; have f4_ := f1_.symm; have f5_ := f3_.symm; clear f1_ f2_ f3_; subst f4_; subst f5_))
    refine hK.out _ _ ⟨(blk_cell BK261.out 0).trans rfl, (blk_cell BK261.out 1).trans rfl, (blk_cell BK261.out 2).trans rfl, (blk_cell BK261.out 3).trans rfl⟩ (fun hHeld => ?_)
    clear hK K
    refine nS_ (some 33) ?_
    refine pT_ 7 (some 34) #[true, true, true, true, true, true, true, true, false] HT_ ?_
    refine last_ (i := 8) (N := none) #[true, true, true, true, true, true, true, true, true] rfl rfl (one_of HT_.out (by kernel_rfl)) (by decide) (fun K hK => ?_)
    have hs27 : w25.cell? ⟨gb261, 2, none⟩ = some (u262002) := (blk_cell BK261.out 2).trans rfl
    have hfs27 := blk_frozen BK261.out 2; have hns27_0 := NB258_261.out; have hms27_0 := NB261_258.out
    refine skip_ (w1 := ?_) (by rfl) rfl ?_ ?_
    rotate_left
    ·go_simp
     rfl
    refine hK.out _ _ ?_
    clear hK K
    refine done_ (done_of HT_.out (by kernel_rfl)) ?_
    try go_wp2
    go_roundg k1
    case measure => have := HK1.out; omega
    case rel => exact ⟨(wrap64 (x4_1 + 1)), (t268), (y264), (y269), (.slice Ao20 y264.length co20), (.slice Ao26 y269.length co26), (by first | rfl | (simp; done) | (simp [*]; done)), H', ⟨by have := HK1.out; omega⟩, ⟨rFM_ HO266 BK261⟩, ⟨rFM_ HO271 BK261⟩, ⟨bF_ BK258 NB258_261⟩, ⟨bP_ BK261⟩, ⟨sAIsS77_11⟩, ⟨sAKeep_11⟩, ⟨sABelo_11⟩⟩
   ·rw [if_neg c9] at H
    have c9b0 := decide_eq_false c9
    clear c9; replace H := Option.bind_eq_some_iff.mp H
    obtain ⟨⟨t272, t273⟩, A280, H⟩ := H
    replace H : (spec_l1Rd_problem.l1 k1 t272 0 s0_0 t273 (wrap64 (1 + t259)) x262001_1 x262002_1 ([] : List (S52))) = some (r1, r2, r3, r4, r5) := H
    have A28 := Aside0.mk A280; clear A280; have H' := Aside0.mk H; clear H; have hnb29 := NB261_258.out; have hnc29 := NB258_261.out; have hnb30 := NB261_0.out; have hnc30 := NB0_261.out
    obtain ⟨hcz31_0, hcz31_1, hcz31_2, hcz31_3, hfz31_0, hfz31_1, hfz31_2, hfz31_3⟩ := cf4_ BK261
    go_wp2_with (first | ((with_reducible refine gate_callee (f := 53) rfl ?_); refine gL_ (some 36) Try.func53 #[.pointer (some ⟨g, 0, none⟩), .int .i64 8, .int .i64 8] ?_; (with_reducible refine (spec_l1Rd_size.calls g s0_0 x1001_1 8 8 t272 t273 w0 _ ?side1 ?side2 A28.out).mono ?_); (case side1 => repeat (first | (with_reducible first | exact HI0.out | apply IsS77.alloc | apply IsS77.drewN | apply IsS77.drew | apply IsS77.set_1 | refine IsS77.far ?_ NB0_258.out _ | refine IsS77.far ?_ NB0_261.out _) | exact HI0.out)); (case side2 => repeat (first | (with_reducible first | exact HB.out | apply below_alloc | apply pw_below_drewN | apply below_drew1 | refine below_set ?_ (IsS77.ge HI0.out) | refine below_set ?_ GE258.out | refine below_set ?_ GE261.out) | exact HB.out)); rintro e w32 ⟨rfl, hi, hb, hk⟩; refine ⟨_, rfl, ?_⟩; replace HO_262001 := Aside0.mk (Kd.R_mono (Kd.R_keep (IsS77.apart (show IsS77 w0 _ g s0_0 x1001_1 from sAIsS77_11) (rT_ HO_262001) (by decide)) hk (fun _ h => h.2)) (fun _ h => h.1)); replace HO_262002 := Aside0.mk (Kd.R_mono (Kd.R_keep (IsS77.apart (show IsS77 w0 _ g s0_0 x1001_1 from sAIsS77_11) (rT_ HO_262002) (by decide)) hk (fun _ h => h.2)) (fun _ h => h.1)); replace BK258 := Aside0.mk (KeepBut.blk hk (g' := gb258) (o := .cells #[.int .i64 0, .slice none 0 0, .slice none 0 0, .slice none 0 0] 30 (0, 0)) (bT_ BK258) NB258_0.out (by simp)); replace BK261 := Aside0.mk (KeepBut.blk hk (g' := gb261) (o := .cells #[.int .i64 (wrap64 (1 + t259)), u262001, u262002, .slice none 0 0] 30 (0, 0)) (bT_ BK261) NB261_0.out (by simp)); replace HK := Aside0.mk (KeepBut.trans (w := w) (row := none) sAKeep_11 hk (.inl rfl)); replace HB := Aside0.mk (hb); replace HI0 := Aside0.mk (hi); (try clear hb); (try clear hk); (try clear hi)))
    go_loopg [6] k1 (fun kq v6 w' => ∃ (x6_2 : Int) (x1001_2 : Int) (x262003_2 : List (S52)) (u262003 : Value), v6 = .int .i64 x6_2 ∧ Aside0 (spec_l1Rd_problem.l1 kq t272 x6_2 s0_0 x1001_2 (wrap64 (1 + t259)) x262001_1 x262002_1 x262003_2 = some (r1, r2, r3, r4, r5)) ∧ Aside0 (kq ≤ k1) ∧ Aside0 (Kd.R (Kd.int .i64) 2 w' w.heap.size (fun k_ => some k_ ≠ (u262002 : Value).ownBlock) u262001 x262001_1) ∧ Aside0 (Kd.R (Kd.int .i64) 2 w' w.heap.size (fun k_ => some k_ ≠ (u262001 : Value).ownBlock) u262002 x262002_1) ∧ Aside0 (Kd.S k52 52 w' w.heap.size (fun k_ => some k_ ≠ (u262001 : Value).ownBlock ∧ some k_ ≠ (u262002 : Value).ownBlock) u262003 x262003_2) ∧ Aside0 (w'.heap[gb258]? = some (.cells #[.int .i64 0, (.slice none 0 0), (.slice none 0 0), (.slice none 0 0)] 30 (0, 0))) ∧ Aside0 (w'.heap[gb261]? = some (.cells #[.int .i64 (wrap64 (1 + t259)), u262001, u262002, u262003] 30 (0, 0))) ∧ Aside0 (IsS77 w0 w' g s0_0 x1001_2) ∧ Aside0 (KeepBut w w' g none) ∧ Aside0 (Below w0.heap.size w0 w'))
    case atStart => exact ⟨(0), (t273), (([] : List (S52))), (.slice none 0 0), (by first | rfl | (simp; done) | (simp [*]; done)), H', ⟨Nat.le_refl _⟩, ⟨rT_ HO_262001⟩, ⟨rT_ HO_262002⟩, ⟨by first | exact Kd.S_nil _ _ _ _ _ | exact Kd.N_nil _ _ _ _ _ | exact Kd.V_nil _ _ _ _ _ | exact Kd.Q_nil _ _ _ _ _ | exact Kd.R_nil _ _ _ _ _⟩, ⟨bT_ BK258⟩, ⟨bT_ BK261⟩, ⟨sAIsS77_11⟩, ⟨sAKeep_11⟩, ⟨sABelo_11⟩⟩
    case round =>
     clear H'; (try clear c9); (try clear c9b0); (try clear hcz31_0); (try clear hcz31_1); (try clear hcz31_2); (try clear hcz31_3); (try clear hcz8_0); (try clear hcz8_1); (try clear hcz8_2); (try clear hcz8_3); (try clear hfz31_0); (try clear hfz31_1); (try clear hfz31_2); (try clear hfz31_3); (try clear hfz8_0); (try clear hfz8_1); (try clear hfz8_2); (try clear hfz8_3)
     obtain ⟨x6_2, x1001_2, x262003_2, u262003, rfl, HA, HK2, HO_262001, HO_262002, HO_262003, BK258, BK261, HI0, HK, HB⟩ := hrel
     cases gk with
     | zero => exact absurd HA.out (by simp [spec_l1Rd_problem.l1])
     | succ k2 =>
      have H := HA.out; clear HA
      simp only [spec_l1Rd_problem.l1] at H
      by_cases c33 : x6_2 < t272
      ·rw [if_pos c33] at H
       have c33b0 := decide_eq_true c33
       clear c33; replace H := Option.bind_eq_some_iff.mp H
       obtain ⟨⟨t274, t275⟩, A340, H⟩ := H
       replace H : ((spec_l1Rd_below.f s0_0 t275 5).bind fun bt276 => (spec_l1Rd_problem.l2 k2 t272 x6_2 0 s0_0 bt276.2 (wrap64 (1 + t259)) x262001_1 x262002_1 x262003_2 ([] : List Int) (wrap64 (t274 - 200)) (wrap64 (1 + bt276.1)))) = some (r1, r2, r3, r4, r5) := H
       have A34 := Aside0.mk A340; clear A340; replace H := Option.bind_eq_some_iff.mp H
       obtain ⟨⟨t276, t277⟩, A350, H⟩ := H
       replace H : (spec_l1Rd_problem.l2 k2 t272 x6_2 0 s0_0 t277 (wrap64 (1 + t259)) x262001_1 x262002_1 x262003_2 ([] : List Int) (wrap64 (t274 - 200)) (wrap64 (1 + t276))) = some (r1, r2, r3, r4, r5) := H
       have A35 := Aside0.mk A350; clear A350; have H' := Aside0.mk H; clear H
       go_wp2_with (first | ((with_reducible refine gate_callee (f := 45) rfl ?_); refine gL_ (some 43) Try.func45 #[.pointer (some ⟨g, 0, none⟩), .int .i64 400] ?_; (with_reducible refine (spec_l1Rd_below.calls g s0_0 x1001_2 400 t274 t275 w0 _ ?side1 ?side2 A34.out).mono ?_); (case side1 => repeat (first | (with_reducible first | exact HI0.out | apply IsS77.alloc | apply IsS77.drewN | apply IsS77.drew | apply IsS77.set_1 | refine IsS77.far ?_ NB0_258.out _ | refine IsS77.far ?_ NB0_261.out _) | exact HI0.out)); (case side2 => repeat (first | (with_reducible first | exact HB.out | apply below_alloc | apply pw_below_drewN | apply below_drew1 | refine below_set ?_ (IsS77.ge HI0.out) | refine below_set ?_ GE258.out | refine below_set ?_ GE261.out) | exact HB.out)); rintro e w36 ⟨rfl, hi, hb, hk⟩; refine ⟨_, rfl, ?_⟩; replace HO_262001 := Aside0.mk (Kd.R_mono (Kd.R_keep (IsS77.apart (show IsS77 w0 _ g s0_0 x1001_2 from sAIsS77_11) (rT_ HO_262001) (by decide)) hk (fun _ h => h.2)) (fun _ h => h.1)); replace HO_262002 := Aside0.mk (Kd.R_mono (Kd.R_keep (IsS77.apart (show IsS77 w0 _ g s0_0 x1001_2 from sAIsS77_11) (rT_ HO_262002) (by decide)) hk (fun _ h => h.2)) (fun _ h => h.1)); replace HO_262003 := Aside0.mk (Kd.S_mono (Kd.S_keep (IsS77.apartS (show IsS77 w0 _ g s0_0 x1001_2 from sAIsS77_11) (sT_ HO_262003) (by decide)) hk (fun _ h => h.2)) (fun _ h => h.1)); replace BK258 := Aside0.mk (KeepBut.blk hk (g' := gb258) (o := .cells #[.int .i64 0, .slice none 0 0, .slice none 0 0, .slice none 0 0] 30 (0, 0)) (bT_ BK258) NB258_0.out (by simp)); replace BK261 := Aside0.mk (KeepBut.blk hk (g' := gb261) (o := .cells #[.int .i64 (wrap64 (1 + t259)), u262001, u262002, u262003] 30 (0, 0)) (bT_ BK261) NB261_0.out (by simp)); replace HK := Aside0.mk (KeepBut.trans (w := w) (row := none) sAKeep_11 hk (.inl rfl)); replace HB := Aside0.mk (hb); replace HI0 := Aside0.mk (hi); (try clear hb); (try clear hk); (try clear hi)) | ((with_reducible refine gate_callee (f := 45) rfl ?_); refine gL_ (some 46) Try.func45 #[.pointer (some ⟨g, 0, none⟩), .int .i64 5] ?_; (with_reducible refine (spec_l1Rd_below.calls g s0_0 t275 5 t276 t277 w0 _ ?side1 ?side2 A35.out).mono ?_); (case side1 => repeat (first | (with_reducible first | exact HI0.out | apply IsS77.alloc | apply IsS77.drewN | apply IsS77.drew | apply IsS77.set_1 | refine IsS77.far ?_ NB0_258.out _ | refine IsS77.far ?_ NB0_261.out _) | exact HI0.out)); (case side2 => repeat (first | (with_reducible first | exact HB.out | apply below_alloc | apply pw_below_drewN | apply below_drew1 | refine below_set ?_ (IsS77.ge HI0.out) | refine below_set ?_ GE258.out | refine below_set ?_ GE261.out) | exact HB.out)); rintro e w37 ⟨rfl, hi, hb, hk⟩; refine ⟨_, rfl, ?_⟩; replace HO_262001 := Aside0.mk (Kd.R_mono (Kd.R_keep (IsS77.apart (show IsS77 w0 _ g s0_0 t275 from sAIsS77_11) (rT_ HO_262001) (by decide)) hk (fun _ h => h.2)) (fun _ h => h.1)); replace HO_262002 := Aside0.mk (Kd.R_mono (Kd.R_keep (IsS77.apart (show IsS77 w0 _ g s0_0 t275 from sAIsS77_11) (rT_ HO_262002) (by decide)) hk (fun _ h => h.2)) (fun _ h => h.1)); replace HO_262003 := Aside0.mk (Kd.S_mono (Kd.S_keep (IsS77.apartS (show IsS77 w0 _ g s0_0 t275 from sAIsS77_11) (sT_ HO_262003) (by decide)) hk (fun _ h => h.2)) (fun _ h => h.1)); replace BK258 := Aside0.mk (KeepBut.blk hk (g' := gb258) (o := .cells #[.int .i64 0, .slice none 0 0, .slice none 0 0, .slice none 0 0] 30 (0, 0)) (bT_ BK258) NB258_0.out (by simp)); replace BK261 := Aside0.mk (KeepBut.blk hk (g' := gb261) (o := .cells #[.int .i64 (wrap64 (1 + t259)), u262001, u262002, u262003] 30 (0, 0)) (bT_ BK261) NB261_0.out (by simp)); replace HK := Aside0.mk (KeepBut.trans (w := w) (row := none) sAKeep_11 hk (.inl rfl)); replace HB := Aside0.mk (hb); replace HI0 := Aside0.mk (hi); (try clear hb); (try clear hk); (try clear hi)) | ((with_reducible refine gate_dst (N := 7) rfl ?_); refine box_event ?hg (N := 7) ?hd (cs := #[.slice none 0 0, .int .i64 0, .int .i64 0]) (t := 52) ?hr ?_; (case hd => rfl); (case hg => rfl); (case hr => first | (go_simp; done) | (go_simp; rfl)); intro gb278 hg w38 hbox hb; replace HO_262001 := rB_ HO_262001 hb; replace HO_262002 := rB_ HO_262002 hb; replace HO_262003 := Aside0.mk (Kd.S_below (Kd.S_elderB (sT_ HO_262003) gb278 (Nat.le_of_eq hg.symm)) hb); replace HB := Aside0.mk (below_step sABelo_11 hb); have BK278 := Aside0.mk (hbox); have GW278 := Aside0.mk ((by rw [hg]; exact (keep_size (w := w) (g := g) (row := none) sAKeep_11) : w.heap.size ≤ gb278)); have GE278 := Aside0.mk ((Nat.le_trans HW0.out (by rw [hg]; exact (keep_size (w := w) (g := g) (row := none) sAKeep_11) : w.heap.size ≤ gb278) : w0.heap.size ≤ gb278)); replace HK := Aside0.mk (KeepBut.trans (w := w) (row := none) sAKeep_11 (KeepBut.of_below hb g none) (.inl rfl)); have NB258_278 := nL_ BK258 hg; have NB278_258 := nG_ BK258 hg; replace BK258 := bB_ BK258 hb; have NB261_278 := nL_ BK261 hg; have NB278_261 := nG_ BK261 hg; replace BK261 := bB_ BK261 hb; have NB0_278 := Aside0.mk ((by rw [hg]; exact Nat.ne_of_lt (IsS77.lt (show IsS77 w0 _ g s0_0 t277 from sAIsS77_11)) : g ≠ gb278)); have NB278_0 := Aside0.mk ((by rw [hg]; exact Nat.ne_of_gt (IsS77.lt (show IsS77 w0 _ g s0_0 t277 from sAIsS77_11)) : gb278 ≠ g)); replace HI0 := Aside0.mk (IsS77.below sAIsS77_11 hb); clear hb hbox hg; have hnb39 := NB278_258.out; have hnc39 := NB258_278.out; have hnb40 := NB278_261.out; have hnc40 := NB261_278.out; have hnb41 := NB278_0.out; have hnc41 := NB0_278.out; obtain ⟨hcz42_0, hcz42_1, hcz42_2, hfz42_0, hfz42_1, hfz42_2⟩ := cf3_ BK278))
       go_loopg [8] k2 (fun kq v8 w' => ∃ (x8_3 : Int) (x1001_3 : Int) (x279000_3 : List Int) (u279000 : Value), v8 = .int .i64 x8_3 ∧ Aside0 (spec_l1Rd_problem.l2 kq t272 x6_2 x8_3 s0_0 x1001_3 (wrap64 (1 + t259)) x262001_1 x262002_1 x262003_2 x279000_3 (wrap64 (t274 - 200)) (wrap64 (1 + t276)) = some (r1, r2, r3, r4, r5)) ∧ Aside0 (kq ≤ k2) ∧ Aside0 (Kd.R (Kd.int .i64) 2 w' w.heap.size (fun k_ => some k_ ≠ (u262002 : Value).ownBlock ∧ some k_ ≠ (u279000 : Value).ownBlock) u262001 x262001_1) ∧ Aside0 (Kd.R (Kd.int .i64) 2 w' w.heap.size (fun k_ => some k_ ≠ (u262001 : Value).ownBlock ∧ some k_ ≠ (u279000 : Value).ownBlock) u262002 x262002_1) ∧ Aside0 (Kd.S k52 52 w' w.heap.size (fun k_ => some k_ ≠ (u262001 : Value).ownBlock ∧ some k_ ≠ (u262002 : Value).ownBlock ∧ some k_ ≠ (u279000 : Value).ownBlock ∧ k_ ≠ gb278) u262003 x262003_2) ∧ Aside0 (Kd.R (Kd.int .i64) 2 w' w.heap.size (fun k_ => some k_ ≠ (u262001 : Value).ownBlock ∧ some k_ ≠ (u262002 : Value).ownBlock) u279000 x279000_3) ∧ Aside0 (w'.heap[gb258]? = some (.cells #[.int .i64 0, (.slice none 0 0), (.slice none 0 0), (.slice none 0 0)] 30 (0, 0))) ∧ Aside0 (w'.heap[gb261]? = some (.cells #[.int .i64 (wrap64 (1 + t259)), u262001, u262002, u262003] 30 (0, 0))) ∧ Aside0 (w'.heap[gb278]? = some (.cells #[u279000, .int .i64 (wrap64 (t274 - 200)), .int .i64 (wrap64 (1 + t276))] 52 (0, 0))) ∧ Aside0 (IsS77 w0 w' g s0_0 x1001_3) ∧ Aside0 (KeepBut w w' g none) ∧ Aside0 (Below w0.heap.size w0 w'))
       case atStart => exact ⟨(0), (t277), (([] : List Int)), (.slice none 0 0), (by first | rfl | (simp; done) | (simp [*]; done)), H', ⟨Nat.le_refl _⟩, ⟨rFM_ HO_262001 BK278⟩, ⟨rFM_ HO_262002 BK278⟩, ⟨sFN_ HO_262003⟩, ⟨by first | exact Kd.R_nil _ _ _ _ _ | exact Kd.N_nil _ _ _ _ _ | exact Kd.V_nil _ _ _ _ _ | exact Kd.Q_nil _ _ _ _ _ | exact Kd.S_nil _ _ _ _ _⟩, ⟨bF_ BK258 NB258_278⟩, ⟨bF_ BK261 NB261_278⟩, ⟨bP_ BK278⟩, ⟨sAIsS77_11⟩, ⟨sAKeep_11⟩, ⟨sABelo_11⟩⟩
       case round =>
        clear H'; (try clear c9); (try clear c9b0); (try clear c33); (try clear c33b0); (try clear hcz31_0); (try clear hcz31_1); (try clear hcz31_2); (try clear hcz31_3); (try clear hcz42_0); (try clear hcz42_1); (try clear hcz42_2); (try clear hcz8_0); (try clear hcz8_1); (try clear hcz8_2); (try clear hcz8_3); (try clear hfz31_0); (try clear hfz31_1); (try clear hfz31_2); (try clear hfz31_3); (try clear hfz42_0); (try clear hfz42_1); (try clear hfz42_2); (try clear hfz8_0); (try clear hfz8_1); (try clear hfz8_2); (try clear hfz8_3)
        obtain ⟨x8_3, x1001_3, x279000_3, u279000, rfl, HA, HK3, HO_262001, HO_262002, HO_262003, HO_279000, BK258, BK261, BK278, HI0, HK, HB⟩ := hrel
        cases gk with
        | zero => exact absurd HA.out (by simp [spec_l1Rd_problem.l2])
        | succ k3 =>
         have H := HA.out; clear HA
         simp only [spec_l1Rd_problem.l2] at H
         by_cases c43 : x8_3 < (wrap64 (1 + t259))
         ·rw [if_pos c43] at H
          have c43b0 := decide_eq_true c43
          clear c43; replace H := Option.bind_eq_some_iff.mp H
          obtain ⟨⟨t279, t280⟩, A440, H⟩ := H
          replace H : (if x279000_3.length < 17592186044416 then (spec_l1Rd_problem.l2 k3 t272 x6_2 (wrap64 (x8_3 + 1)) s0_0 t280 (wrap64 (1 + t259)) x262001_1 x262002_1 x262003_2 (x279000_3 ++ [wrap64 (t279 - 3)]) (wrap64 (t274 - 200)) (wrap64 (1 + t276))) else (none)) = some (r1, r2, r3, r4, r5) := H
          have A44 := Aside0.mk A440; clear A440
          obtain ⟨c45, H⟩ := ifS_ H
          have LMc45 := Aside0.mk c45; clear c45
          obtain ⟨y281, hy281⟩ : ∃ y_ : List Int, y_ = (x279000_3 ++ [wrap64 (t279 - 3)]) := ⟨_, rfl⟩
          replace H : (spec_l1Rd_problem.l2 k3 t272 x6_2 (wrap64 (x8_3 + 1)) s0_0 t280 (wrap64 (1 + t259)) x262001_1 x262002_1 x262003_2 y281 (wrap64 (t274 - 200)) (wrap64 (1 + t276))) = some (r1, r2, r3, r4, r5) := by first | (rw [hy281]; with_reducible exact H) | (have H2_ := (Option.bind_some _ _).symm.trans H; rw [hy281]; with_reducible exact H2_) | (have H2_ := (Option.bind_some _ _).symm.trans H; with_reducible exact H2_) | with_reducible exact H | (rw [hy281]; exact H) | exact H
          have Ny281 := Aside0.mk hy281; clear hy281; have H' := Aside0.mk H; clear H; have hnb46 := NB261_258.out; have hnc46 := NB258_261.out; have hnb47 := NB261_278.out; have hnc47 := NB278_261.out; have hnb48 := NB261_0.out; have hnc48 := NB0_261.out
          obtain ⟨hcz49_0, hcz49_1, hcz49_2, hcz49_3, hfz49_0, hfz49_1, hfz49_2, hfz49_3⟩ := cf4_ BK261
          try go_wp2
          replace HO_262001 := Aside0.mk (Kd.R_drew HO_262001.out)
          replace HO_262002 := Aside0.mk (Kd.R_drew HO_262002.out)
          replace HO_262003 := Aside0.mk (Kd.S_drew HO_262003.out)
          replace HO_279000 := Aside0.mk (Kd.R_drew HO_279000.out)
          replace BK258 := Aside0.mk (blk_drew BK258.out)
          replace BK261 := Aside0.mk (blk_drew BK261.out)
          replace BK278 := Aside0.mk (blk_drew BK278.out)
          replace HI0 := Aside0.mk (IsS77.drew HI0.out)
          replace HK := Aside0.mk (keep_drew HK.out)
          replace HB := Aside0.mk (below_drew1 HB.out)
          refine start_ (n := 9) (S := fun w' => w'.cell? ⟨gb278, 0, none⟩ = some (u279000) ∧ w'.cell? ⟨gb278, 1, none⟩ = some (.int .i64 (wrap64 (t274 - 200))) ∧ w'.cell? ⟨gb278, 2, none⟩ = some (.int .i64 (wrap64 (1 + t276)))) (ds := [8]) #[false, false, false, false, false, false, false, false, false] (by kernel_rfl) rfl rfl ⟨(blk_cell BK278.out 0).trans rfl, (blk_cell BK278.out 1).trans rfl, (blk_cell BK278.out 2).trans rfl⟩ (fun hHeld => ?_); refine with_tabW spec_l1Rd_problem.tab15 spec_l1Rd_problem.bits15 (fun HT_ HW_ => ?_)
          generalize wr.drew = w50 at HO_262001 HO_262002 HO_262003 HO_279000 BK258 BK261 BK278 HI0 HK HB hHeld ⊢
          refine pT_ 0 (some 55) #[true, false, false, false, false, false, false, false, false] HT_ ?_
          refine pT_ 2 (some 57) #[true, false, true, false, false, false, false, false, false] HT_ ?_
          refine tT_ 1 (some 56) #[true, true, true, false, false, false, false, false, false] HT_ HW_ hHeld ?_ (hy := by rintro w' ⟨s0, s1, s2⟩; go_simp; with_reducible rfl)
          refine one_ (i := 3) (N := some 58) #[true, true, true, true, false, false, false, false, false] rfl rfl (one_of HT_.out (by kernel_rfl)) (by decide) (fun K hK => ?_)
          refine goes_ Try.func45 (by kernel_rfl) rfl #[.pointer (some ⟨g, 0, none⟩), .int .i64 7] (by rfl) rfl rfl (by (try simp only [List.map_toArray, List.map_cons, List.map_nil]); first | done | rfl | (simp only [List.length_drop, List.length_take]; rfl)) ?_
          with_reducible refine (spec_l1Rd_below.calls g s0_0 x1001_3 7 t279 t280 w0 _ ?side1 ?side2 A44.out).mono ?_
          (case side1 => repeat (first | (with_reducible first | exact HI0.out | apply IsS77.alloc | apply IsS77.drewN | apply IsS77.drew | apply IsS77.set_1 | refine IsS77.far ?_ NB0_258.out _ | refine IsS77.far ?_ NB0_261.out _ | refine IsS77.far ?_ NB0_278.out _) | exact HI0.out))
          (case side2 => repeat (first | (with_reducible first | exact HB.out | apply below_alloc | apply pw_below_drewN | apply below_drew1 | refine below_set ?_ (IsS77.ge HI0.out) | refine below_set ?_ GE258.out | refine below_set ?_ GE261.out | refine below_set ?_ GE278.out) | exact HB.out))
          rintro e w51 ⟨rfl, hi, hb, hk⟩
          refine ⟨_, rfl, ?_⟩
          replace HO_262001 := Aside0.mk (Kd.R_mono (Kd.R_keep (IsS77.apart (show IsS77 w0 _ g s0_0 x1001_3 from sAIsS77_11) (rT_ HO_262001) (by decide)) hk (fun _ h => h.2)) (fun _ h => h.1))
          replace HO_262002 := Aside0.mk (Kd.R_mono (Kd.R_keep (IsS77.apart (show IsS77 w0 _ g s0_0 x1001_3 from sAIsS77_11) (rT_ HO_262002) (by decide)) hk (fun _ h => h.2)) (fun _ h => h.1))
          replace HO_262003 := Aside0.mk (Kd.S_mono (Kd.S_keep (IsS77.apartS (show IsS77 w0 _ g s0_0 x1001_3 from sAIsS77_11) (sT_ HO_262003) (by decide)) hk (fun _ h => h.2)) (fun _ h => h.1))
          replace HO_279000 := Aside0.mk (Kd.R_mono (Kd.R_keep (IsS77.apart (show IsS77 w0 _ g s0_0 x1001_3 from sAIsS77_11) (rT_ HO_279000) (by decide)) hk (fun _ h => h.2)) (fun _ h => h.1))
          replace BK258 := Aside0.mk (KeepBut.blk hk (g' := gb258) (o := .cells #[.int .i64 0, .slice none 0 0, .slice none 0 0, .slice none 0 0] 30 (0, 0)) (bT_ BK258) NB258_0.out (by simp))
          replace BK261 := Aside0.mk (KeepBut.blk hk (g' := gb261) (o := .cells #[.int .i64 (wrap64 (1 + t259)), u262001, u262002, u262003] 30 (0, 0)) (bT_ BK261) NB261_0.out (by simp))
          replace BK278 := Aside0.mk (KeepBut.blk hk (g' := gb278) (o := .cells #[u279000, .int .i64 (wrap64 (t274 - 200)), .int .i64 (wrap64 (1 + t276))] 52 (0, 0)) (bT_ BK278) NB278_0.out (by simp))
          replace HK := Aside0.mk (KeepBut.trans (w := w) (row := none) sAKeep_11 hk (.inl rfl))
          replace HB := Aside0.mk (hb)
          replace HI0 := Aside0.mk (hi)
          (try clear hb); (try clear hk); (try clear hi)
          refine hK.out _ _ ⟨(blk_cell BK278.out 0).trans rfl, (blk_cell BK278.out 1).trans rfl, (blk_cell BK278.out 2).trans rfl⟩ (fun hHeld => ?_)
          clear hK K
          refine nS_ (some 58) ?_
          refine pT_ 4 (some 59) #[true, true, true, true, true, false, false, false, false] HT_ ?_
          refine one_ (i := 5) (N := some 60) #[true, true, true, true, true, true, false, false, false] rfl rfl (one_of HT_.out (by kernel_rfl)) (by decide) (fun K hK => ?_)
          refine value_ (w1 := ?_) (v := ?_) (by rfl) rfl ?_ ?_
          rotate_left 2
          ·go_simp
           constructor
           ·rfl
           ·rfl
          refine hK.out _ _ ⟨(blk_cell (blk_alloc BK278.out _) 0).trans rfl, (blk_cell (blk_alloc BK278.out _) 1).trans rfl, (blk_cell (blk_alloc BK278.out _) 2).trans rfl⟩ (fun hHeld => ?_)
          clear hK K
          refine nS_ (some 60) ?_
          refine one_ (i := 6) (N := some 61) #[true, true, true, true, true, true, true, false, false] rfl rfl (one_of HT_.out (by kernel_rfl)) (by decide) (fun K hK => ?_)
          refine Kd.R_append_step (Kd.int .i64) w.heap.size (by rfl) (.tmp 56) (.tmp 60) 22 2 (.int .i64 0) 8 rfl Try.underlying22 info2 rfl (by decide) (by omega) u279000 x279000_3 (wrap64 (t279 - 3)) [.int .i64 (wrap64 (t279 - 3))] (fun k_ => some k_ ≠ (u262001 : Value).ownBlock ∧ some k_ ≠ (u262002 : Value).ownBlock) (fun _ => False) rfl rfl ?aP (fun _ hk => hk.elim) ?aF ?aO (Below.refl _ _) ?aS ?aL ?_
          (case aP => exact rfl)
          (case aF => exact (fun k_ hk => ⟨Kd.fresh' (rLt_ HO_262001) k_ hk, Kd.fresh' (rLt_ HO_262002) k_ hk⟩))
          (case aO => exact (rT_ HO_279000))
          (case aS => exact (keep_size (w := w) (g := g) (row := none) sAKeep_11))
          (case aL => have := LMc45.out; omega)
          intro v282 w52 ho hb hg hat
          rw [← Ny281.out] at ho
          replace HO_262001 := Aside0.mk (Kd.R_after (ok := (fun k_ => some k_ ≠ (u262002 : Value).ownBlock)) (rT_ HO_262001) hg hat)
          replace HO_262002 := Aside0.mk (Kd.R_after (ok := (fun k_ => some k_ ≠ (u262001 : Value).ownBlock)) (rT_ HO_262002) hg hat)
          replace HO_262003 := Aside0.mk (Kd.S_after (ok := (fun k_ => some k_ ≠ (u262001 : Value).ownBlock ∧ some k_ ≠ (u262002 : Value).ownBlock ∧ k_ ≠ gb278)) (by (with_reducible repeat (first | apply Kd.S_alloc | apply Kd.S_drewN | apply Kd.S_drew)); exact Kd.S_mono HO_262003.out (fun _ hk => ⟨⟨hk.1, ⟨hk.2.1, hk.2.2.2⟩⟩, hk.2.2.1⟩)) hg hat)
          replace BK258 := Aside0.mk (blk_grown (g := gb258) (o := .cells #[.int .i64 0, .slice none 0 0, .slice none 0 0, .slice none 0 0] 30 (0, 0)) (bT_ BK258) hg (Kd.R_ne HO_279000.out BK258.out (by decide)))
          replace BK261 := Aside0.mk (blk_grown (g := gb261) (o := .cells #[.int .i64 (wrap64 (1 + t259)), u262001, u262002, u262003] 30 (0, 0)) (bT_ BK261) hg (Kd.R_ne HO_279000.out BK261.out (by decide)))
          replace BK278 := Aside0.mk (blk_grown (g := gb278) (o := .cells #[u279000, .int .i64 (wrap64 (t274 - 200)), .int .i64 (wrap64 (1 + t276))] 52 (0, 0)) (bT_ BK278) hg (Kd.R_ne HO_279000.out BK278.out (by decide)))
          replace HB := Aside0.mk (below_weaken sABelo_11 HL.out hb)
          replace HI0 := Aside0.mk (IsS77.grown sAIsS77_11 hg (IsS77.own_ne HI0.out HO_279000.out (by decide)))
          replace HK := Aside0.mk (KeepBut.trans (w := w) (row := none) sAKeep_11 (KeepBut.of_grown hg g) (Kd.R_base2 HO_279000.out))
          have HO283 := Aside0.mk (ho)
          clear HO_279000 ho hb hg hat
          obtain ⟨Ao53, co53, eo53⟩ := Kd.R_slice HO283.out
          (first | subst eo53 | (injection eo53 with f1_ f2_ f3_; have f4_ := f1_.symm; have f5_ := f3_.symm; clear f1_ f2_ f3_; subst f4_; subst f5_))
          refine hK.out _ _ ⟨(blk_cell BK278.out 0).trans rfl, (blk_cell BK278.out 1).trans rfl, (blk_cell BK278.out 2).trans rfl⟩ (fun hHeld => ?_)
          clear hK K
          refine nS_ (some 61) ?_
          refine pT_ 7 (some 62) #[true, true, true, true, true, true, true, true, false] HT_ ?_
          refine last_ (i := 8) (N := none) #[true, true, true, true, true, true, true, true, true] rfl rfl (one_of HT_.out (by kernel_rfl)) (by decide) (fun K hK => ?_)
          have hs54 : w52.cell? ⟨gb278, 0, none⟩ = some (u279000) := (blk_cell BK278.out 0).trans rfl
          have hfs54 := blk_frozen BK278.out 0; have hns54_0 := NB258_278.out; have hns54_1 := NB261_278.out; have hms54_0 := NB278_258.out; have hms54_1 := NB278_261.out
          refine skip_ (w1 := ?_) (by rfl) rfl ?_ ?_
          rotate_left
          ·go_simp
           rfl
          refine hK.out _ _ ?_
          clear hK K
          refine done_ (done_of HT_.out (by kernel_rfl)) ?_
          try go_wp2
          go_roundg k3
          case measure => have := HK1.out; have := HK2.out; have := HK3.out; omega
          case rel => exact ⟨(wrap64 (x8_3 + 1)), (t280), (y281), (.slice Ao53 y281.length co53), (by first | rfl | (simp; done) | (simp [*]; done)), H', ⟨by have := HK1.out; have := HK2.out; have := HK3.out; omega⟩, ⟨rFM_ HO_262001 BK278⟩, ⟨rFM_ HO_262002 BK278⟩, ⟨sFN_ HO_262003⟩, ⟨rFM_ HO283 BK278⟩, ⟨bF_ BK258 NB258_278⟩, ⟨bF_ BK261 NB261_278⟩, ⟨bP_ BK278⟩, ⟨sAIsS77_11⟩, ⟨sAKeep_11⟩, ⟨sABelo_11⟩⟩
         ·rw [if_neg c43] at H
          have c43b0 := decide_eq_false c43
          clear c43
          obtain ⟨c55, H⟩ := ifS_ H
          have LMc55 := Aside0.mk c55; clear c55
          obtain ⟨y284, hy284⟩ : ∃ y_ : List (S52), y_ = (x262003_2 ++ [(⟨x279000_3, (wrap64 (t274 - 200)), (wrap64 (1 + t276))⟩ : S52)]) := ⟨_, rfl⟩
          replace H : (spec_l1Rd_problem.l1 k3 t272 (wrap64 (x6_2 + 1)) s0_0 x1001_3 (wrap64 (1 + t259)) x262001_1 x262002_1 y284) = some (r1, r2, r3, r4, r5) := by first | (rw [hy284]; with_reducible exact H) | (have H2_ := (Option.bind_some _ _).symm.trans H; rw [hy284]; with_reducible exact H2_) | (have H2_ := (Option.bind_some _ _).symm.trans H; with_reducible exact H2_) | with_reducible exact H | (rw [hy284]; exact H) | exact H
          have Ny284 := Aside0.mk hy284; clear hy284; have H' := Aside0.mk H; clear H; have hnb56 := NB261_258.out; have hnc56 := NB258_261.out; have hnb57 := NB261_278.out; have hnc57 := NB278_261.out; have hnb58 := NB261_0.out; have hnc58 := NB0_261.out
          obtain ⟨hcz59_0, hcz59_1, hcz59_2, hcz59_3, hfz59_0, hfz59_1, hfz59_2, hfz59_3⟩ := cf4_ BK261; have hnb60 := NB278_258.out; have hnc60 := NB258_278.out; have hnb61 := NB278_0.out; have hnc61 := NB0_278.out
          obtain ⟨hcz62_0, hcz62_1, hcz62_2, hfz62_0, hfz62_1, hfz62_2⟩ := cf3_ BK278
          obtain ⟨Ao64, co64, eo64⟩ := Kd.R_slice HO_279000.out
          subst eo64
          go_wp2_with (first | ((with_reducible refine gate_builtin (b := .append) (xs := #[.tmp 64, .tmp 66]) rfl ?_); at_builtin; refine Kd.S_append k52 w.heap.size rfl (.tmp 64) (.tmp 66) 28 52 (.agg #[(.slice none 0 0), (.int .i64 0), (.int .i64 0)]) 40 rfl Try.underlying28 info52 rfl (by decide) (by omega) u262003 x262003_2 (⟨x279000_3, (wrap64 (t274 - 200)), (wrap64 (1 + t276))⟩ : S52) [.slice Ao64 x279000_3.length co64, .int .i64 (wrap64 (t274 - 200)), .int .i64 (wrap64 (1 + t276))] (fun k_ => some k_ ≠ (u262001 : Value).ownBlock ∧ some k_ ≠ (u262002 : Value).ownBlock ∧ k_ ≠ gb278) (fun k_ => some k_ = (.slice Ao64 x279000_3.length co64 : Value).ownBlock) rfl rfl ?aP (fun k_ hk_ => ((Kd.R_mono (ok' := fun k_ => ((fun k_ => some k_ ≠ (u262001 : Value).ownBlock ∧ some k_ ≠ (u262002 : Value).ownBlock ∧ k_ ≠ gb278)) k_ ∧ some k_ ≠ (u262003 : Value).ownBlock) (Kd.R_types (Kd.R_apart' (HO_279000.out) (Kd.S_typed HO_262003.out) (by decide)) BK278.out (by decide)) (fun k_ hk => ⟨⟨hk.1.1.1, ⟨hk.1.1.2, hk.2⟩⟩, hk.1.2⟩))).1 k_ hk_.symm) ?aF ?aO (Below.refl _ _) ?aS ?aL ?_; (case aP => exact k52_mkM _ _ _ (⟨x279000_3, (wrap64 (t274 - 200)), (wrap64 (1 + t276))⟩ : S52) (Kd.R_mono (Kd.R_tight rfl (Kd.R_mono (ok' := fun k_ => ((fun k_ => some k_ ≠ (u262001 : Value).ownBlock ∧ some k_ ≠ (u262002 : Value).ownBlock ∧ k_ ≠ gb278)) k_ ∧ some k_ ≠ (u262003 : Value).ownBlock) (Kd.R_types (Kd.R_apart' (HO_279000.out) (Kd.S_typed HO_262003.out) (by decide)) BK278.out (by decide)) (fun k_ hk => ⟨⟨hk.1.1.1, ⟨hk.1.1.2, hk.2⟩⟩, hk.1.2⟩))) (fun _ h_ => h_))); (case aF => exact (fun k_ hk => ⟨Kd.fresh' (rLt_ HO_262001) k_ hk, Kd.fresh' (rLt_ HO_262002) k_ hk, Kd.freshB (g := gb278) (o := .cells #[.slice Ao64 x279000_3.length co64, .int .i64 (wrap64 (t274 - 200)), .int .i64 (wrap64 (1 + t276))] 52 (0, 0)) (bT_ BK278) k_ hk⟩)); (case aO => exact (by (with_reducible repeat (first | apply Kd.S_alloc | apply Kd.S_drewN | apply Kd.S_drew)); exact Kd.S_mono HO_262003.out (fun k_ hk => ⟨⟨hk.1, ⟨hk.2.1, hk.2.2.2⟩⟩, fun e_ => hk.2.2.1 e_⟩))); (case aS => exact (keep_size (w := w) (g := g) (row := none) sAKeep_11)); (case aL => have := LMc55.out; omega); intro v285 w63 ho hb hg hat; rw [← Ny284.out] at ho; replace HO_262001 := Aside0.mk (Kd.R_over' (rT_ HO_262001) (Kd.S_typed (sT_ HO_262003)) (by decide) hg); replace HO_262002 := Aside0.mk (Kd.R_over' (rT_ HO_262002) (Kd.S_typed (sT_ HO_262003)) (by decide) hg); replace BK258 := Aside0.mk (blk_grown (g := gb258) (o := .cells #[.int .i64 0, .slice none 0 0, .slice none 0 0, .slice none 0 0] 30 (0, 0)) (bT_ BK258) hg (Kd.S_ne HO_262003.out BK258.out (by decide))); replace BK261 := Aside0.mk (blk_grown (g := gb261) (o := .cells #[.int .i64 (wrap64 (1 + t259)), u262001, u262002, u262003] 30 (0, 0)) (bT_ BK261) hg (Kd.S_ne HO_262003.out BK261.out (by decide))); replace BK278 := Aside0.mk (blk_grown (g := gb278) (o := .cells #[.slice Ao64 x279000_3.length co64, .int .i64 (wrap64 (t274 - 200)), .int .i64 (wrap64 (1 + t276))] 52 (0, 0)) (bT_ BK278) hg (Kd.S_away HO_262003.out (fun _ hk => hk.2.2.2))); replace HB := Aside0.mk (below_weaken sABelo_11 HL.out hb); replace HI0 := Aside0.mk (IsS77.grown sAIsS77_11 hg (IsS77.own_neS HI0.out HO_262003.out (by decide))); replace HK := Aside0.mk (KeepBut.trans (w := w) (row := none) sAKeep_11 (KeepBut.of_grown hg g) (Kd.S_base2 HO_262003.out)); have HO286 := Aside0.mk (ho); clear HO_262003 HO_279000; clear ho hb hg hat; obtain ⟨Ao65, co65, eo65⟩ := Kd.S_slice HO286.out; subst eo65; obtain ⟨hcz66_0, hcz66_1, hcz66_2, hcz66_3, hfz66_0, hfz66_1, hfz66_2, hfz66_3⟩ := cf4_ BK261))
          go_roundg k3
          case measure => have := HK1.out; have := HK2.out; have := HK3.out; omega
          case rel => exact ⟨(wrap64 (x6_2 + 1)), (x1001_3), (y284), (.slice Ao65 y284.length co65), (by first | rfl | (simp; done) | (simp [*]; done)), H', ⟨by have := HK1.out; have := HK2.out; have := HK3.out; omega⟩, ⟨rFM_ HO_262001 BK261⟩, ⟨rFM_ HO_262002 BK261⟩, ⟨sFM_ HO286 BK261⟩, ⟨bF_ BK258 NB258_261⟩, ⟨bP_ BK261⟩, ⟨sAIsS77_11⟩, ⟨sAKeep_11⟩, ⟨sABelo_11⟩⟩
      ·rw [if_neg c33] at H
       have c33b0 := decide_eq_false c33
       clear c33
       simp only [Option.some.injEq, Prod.mk.injEq] at H
       obtain ⟨rfl, rfl, rfl, rfl, rfl⟩ := H
       have hnb67 := NB261_258.out; have hnc67 := NB258_261.out; have hnb68 := NB261_0.out; have hnc68 := NB0_261.out
       obtain ⟨hcz69_0, hcz69_1, hcz69_2, hcz69_3, hfz69_0, hfz69_1, hfz69_2, hfz69_3⟩ := cf4_ BK261; have hnb70 := NB258_0.out; have hnc70 := NB0_258.out
       obtain ⟨hcz71_0, hcz71_1, hcz71_2, hcz71_3, hfz71_0, hfz71_1, hfz71_2, hfz71_3⟩ := cf4_ BK258
       obtain ⟨Ao72, co72, eo72⟩ := Kd.R_slice HO_262001.out
       subst eo72
       obtain ⟨Ao73, co73, eo73⟩ := Kd.R_slice HO_262002.out
       subst eo73
       obtain ⟨Ao74, co74, eo74⟩ := Kd.S_slice HO_262003.out
       subst eo74
       go_wp2
       refine bodyPost_ret (results_cell_row rfl _ _ gb258 30 #[.int .i64 (wrap64 (1 + t259)), .slice Ao72 x262001_1.length co72, .slice Ao73 x262002_1.length co73, .slice Ao74 x262003_2.length co74] (0, 0) _ rfl (bP_ BK258) Try.underlying30 rfl (by kernel_rfl)) rfl ?_
       exact ⟨_, _, _, by first | rfl | (simp [errW_none, errW_some] <;> rfl) | (simp [*, errW_none, errW_some] <;> rfl), by (with_reducible repeat (first | apply Kd.R_alloc | apply Kd.R_drewN | apply Kd.R_drew)); exact Kd.R_mono (Kd.R_far (p := ⟨gb258, 3, none⟩) (Kd.R_far (p := ⟨gb258, 2, none⟩) (Kd.R_far (p := ⟨gb258, 1, none⟩) (Kd.R_far (p := ⟨gb258, 0, none⟩) (Kd.R_types HO_262001.out BK258.out (by decide)) (fun _ hk => hk.2) (.int .i64 (wrap64 (1 + t259)))) (fun _ hk => hk.2) (.slice Ao72 x262001_1.length co72)) (fun _ hk => hk.2) (.slice Ao73 x262002_1.length co73)) (fun _ hk => hk.2) (.slice Ao74 x262003_2.length co74)) (fun _ hk => hk.1), by (with_reducible repeat (first | apply Kd.R_alloc | apply Kd.R_drewN | apply Kd.R_drew)); exact Kd.R_mono (Kd.R_far (p := ⟨gb258, 3, none⟩) (Kd.R_far (p := ⟨gb258, 2, none⟩) (Kd.R_far (p := ⟨gb258, 1, none⟩) (Kd.R_far (p := ⟨gb258, 0, none⟩) (Kd.R_types HO_262002.out BK258.out (by decide)) (fun _ hk => hk.2) (.int .i64 (wrap64 (1 + t259)))) (fun _ hk => hk.2) (.slice Ao72 x262001_1.length co72)) (fun _ hk => hk.2) (.slice Ao73 x262002_1.length co73)) (fun _ hk => hk.2) (.slice Ao74 x262003_2.length co74)) (fun _ hk => hk.1), by (with_reducible repeat (first | apply Kd.S_alloc | apply Kd.S_drewN | apply Kd.S_drew)); exact Kd.S_mono (Kd.S_far (p := ⟨gb258, 3, none⟩) (Kd.S_far (p := ⟨gb258, 2, none⟩) (Kd.S_far (p := ⟨gb258, 1, none⟩) (Kd.S_far (p := ⟨gb258, 0, none⟩) (Kd.S_types HO_262003.out BK258.out (by decide)) (fun _ hk => hk.2) (.int .i64 (wrap64 (1 + t259)))) (fun _ hk => hk.2) (.slice Ao72 x262001_1.length co72)) (fun _ hk => hk.2) (.slice Ao73 x262002_1.length co73)) (fun _ hk => hk.2) (.slice Ao74 x262003_2.length co74)) (fun _ hk => ⟨hk.1.1, hk.1.2⟩), sAIsS77_11, sABelo_11, sAKeep_11⟩

end Go.Proofs.Ytcjhbmjimjbphaa.QFnDescends
