-- Written by a program of this session out of the printer's texts and contracts of its own.
import Derived.Test.YtopfdmodbhopiaaSq
import Derived.Test.YtopfdmodbhopiaaQFnWaterBookx0
import Derived.Test.YtopfdmodbhopiaaQFnWaterBookx2
import Derived.Test.YtopfdmodbhopiaaQFnWaterBookx5
import Derived.Test.YtopfdmodbhopiaaQFnWaterBookx7
import Derived.Test.YtopfdmodbhopiaaQFnWaterBookx9
namespace Go.Proofs.Ytopfdmodbhopiaa.QFnWaterBook
open Go.RowKit Go.Proofs.YtopfdmodbhopiaaW.PrintWords Go.Proofs.YtopfdmodbhopiaaW.PrintLast Go.Proofs.YtopfdmodbhopiaaW.PrintMore Go.Proofs.Ytopfdmodbhopiaa.Sq
attribute [local go_sem] max2_int min2_int max_two min_two max_three min_three max_four min_four   -- for this text's walks alone
set_option linter.unusedVariables false
set_option linter.unusedSimpArgs false

/-! ### spec_l13DrawBook: function 51 -/
def spec_l13DrawBook.l0 : Nat → List Int → Int → Int → List Int → Int → List Int → Int → Int → Option (List Int × Int × Int × Int)
 | 0, _, _, _, _, _, _, _, _ => none
 | k + 1, x1, x6, x7, x1000, x1001, x309000, x309001, x309002 => if x7 < x6 then ((spec_l13DrawRain.f k x1000 x1001 x1).bind fun bt311 => ((spec_FlowStep.f k x1 x309000 x309001 x309002 bt311.1).bind fun bt315 => (if bt315.2.2.2 = true then (spec_l13DrawBook.l0 k x1 x6 (wrap64 (x7 + 1)) x1000 bt311.2 bt315.1 bt315.2.1 bt315.2.2.1) else (spec_l13DrawBook.l0 k x1 x6 (wrap64 (x7 + 1)) x1000 bt311.2 x309000 x309001 x309002)))) else (some (x309000, x309001, x309002, x1001))
def spec_l13DrawBook.f (k : Nat) (s0_0 : List Int) (s0_1 : Int) (l1 : List Int) : Option (List Int × Int × Int × Int) := if 0 ≤ (l1.length : Int) then (if ((l1.length : Int) : Int).toNat ≤ 35184372088832 then ((spec_l1Rd_below.f s0_0 s0_1 4).bind fun bt309 => (spec_l13DrawBook.l0 k l1 bt309.1 0 s0_0 bt309.2 (List.replicate ((l1.length : Int) : Int).toNat 0) 0 0)) else (none)) else (none)
theorem spec_l13DrawBook.mono_l : ∀ k, (∀ y0 y1 y2 y3 y4 y5 y6 y7, LeO (spec_l13DrawBook.l0 k y0 y1 y2 y3 y4 y5 y6 y7) (spec_l13DrawBook.l0 (k + 1) y0 y1 y2 y3 y4 y5 y6 y7))
 | 0 => fun _ _ _ _ _ _ _ _ r h => by simp [spec_l13DrawBook.l0] at h
 | k + 1 => by
  have ih0 := spec_l13DrawBook.mono_l k
  ·intro y0 y1 y2 y3 y4 y5 y6 y7
   unfold spec_l13DrawBook.l0
   repeat' first
   | (with_reducible exact ih0 _ _ _ _ _ _ _ _)
   | (with_reducible exact spec_FlowStep.mono _ _ _ _ _ _)
   | (with_reducible exact spec_l13DrawRain.mono _ _ _ _)
   | (with_reducible exact LeO.refl _)
   | (with_reducible exact LeO.none _)
   | (with_reducible refine LeO.ite ?_ ?_)
   | (with_reducible refine LeO.bind ?_ (fun _ => ?_))
   | exact ih0 _ _ _ _ _ _ _ _
   | exact spec_FlowStep.mono _ _ _ _ _ _
   | exact spec_l13DrawRain.mono _ _ _ _
   | exact LeO.none _
   | refine LeO.ite ?_ ?_
   | refine LeO.bind ?_ (fun _ => ?_)
theorem spec_l13DrawBook.mono : ∀ a0 a1 a2 k, LeO (spec_l13DrawBook.f k a0 a1 a2) (spec_l13DrawBook.f (k + 1) a0 a1 a2) := by
 intro a0 a1 a2 k
 have ih0 := spec_l13DrawBook.mono_l k
 unfold spec_l13DrawBook.f
 repeat' first
   | (with_reducible exact ih0 _ _ _ _ _ _ _ _)
   | (with_reducible exact spec_FlowStep.mono _ _ _ _ _ _)
   | (with_reducible exact spec_l13DrawRain.mono _ _ _ _)
   | (with_reducible exact LeO.refl _)
   | (with_reducible exact LeO.none _)
   | (with_reducible refine LeO.ite ?_ ?_)
   | (with_reducible refine LeO.bind ?_ (fun _ => ?_))
   | exact ih0 _ _ _ _ _ _ _ _
   | exact spec_FlowStep.mono _ _ _ _ _ _
   | exact spec_l13DrawRain.mono _ _ _ _
   | exact LeO.none _
   | refine LeO.ite ?_ ?_
   | refine LeO.bind ?_ (fun _ => ?_)
def spec_l13DrawBook.T6 : Bool × List (List Nat × List Nat) := (true, [([], []), ([], []), ([], []), ([], []), ([2, 3], [2, 3]), ([0, 1, 4, 4], [0, 1, 4]), ([5], [5]), ([6], [6]), ([6], [6]), ([], []), ([9, 7, 5, 0, 1, 2, 3, 4, 5, 6, 7, 9], [7, 9]), ([8, 10, 0, 1, 2, 3, 4, 5, 6, 7, 8, 9, 10], [8])])
def spec_l13DrawBook.B6 : List Nat := [0, 0, 0, 0, 12, 31, 63, 127, 127, 0, 767, 2047]
theorem spec_l13DrawBook.tab6 : rtab .any (opsOf Try.f51 6) = spec_l13DrawBook.T6 := by kernel_rfl
theorem spec_l13DrawBook.bits6 : waitsOk spec_l13DrawBook.T6.2 spec_l13DrawBook.B6 = true := by kernel_rfl
set_option maxHeartbeats 8000000 in
set_option maxRecDepth 100000 in
theorem spec_l13DrawBook.calls (k : Nat) (g : Nat) (s0_0 : List Int) (s0_1 : Int) (A1 : Option Addr) (c1 : Nat) (l1 : List Int) (r1 : List Int) (r2 : Int) (r3 : Int) (r4 : Int) (w0 w : World) (hI : IsS92 w0 w g s0_0 s0_1) (hB : Below w0.heap.size w0 w) (hr1 : Kd.C (Kd.int .i64) w A1 l1.length l1) (hc1 : l1.length ≤ c1) (hf1 : ∀ ad, A1 = some ad → 0 < l1.length → ad.block ≠ g) (h : spec_l13DrawBook.f k s0_0 s0_1 l1 = some (r1, r2, r3, r4)) :
  Calls Try.prog 51 #[.pointer (some ⟨g, 0, none⟩), .slice A1 l1.length c1] w fun e w' => ∃ v0_ : Value, e = .returned (.agg #[v0_, .int .i64 r2, .int .i64 r3]) ∧ Kd.R (Kd.int .i64) 2 w' w.heap.size (fun _ => True) v0_ r1 ∧ IsS92 w0 w' g s0_0 r4 ∧ Below w0.heap.size w0 w' ∧ KeepBut w w' g none := by
 have hu26 := Try.underlying26; have HR1 := Aside0.mk hr1; have HC1 := Aside0.mk hc1; clear hr1 hc1; have HI0 := Aside0.mk hI
 have HK := Aside0.mk (KeepBut.refl w g none)
 have HL := Aside0.mk hB.size; clear hI; have HW0 := Aside0.mk hB.size; have HB := Aside0.mk hB; clear hB
 have H : (if 0 ≤ (l1.length : Int) then (if ((l1.length : Int) : Int).toNat ≤ 35184372088832 then ((spec_l1Rd_below.f s0_0 s0_1 4).bind fun bt309 => (spec_l13DrawBook.l0 k l1 bt309.1 0 s0_0 bt309.2 (List.replicate ((l1.length : Int) : Int).toNat 0) 0 0)) else (none)) else (none)) = some (r1, r2, r3, r4) := h
 clear h
 by_cases c3 : 0 ≤ (l1.length : Int)
 ·rw [if_pos c3] at H
  have c3b0 := eq_true c3
  have c3b1 : decide (0 ≤ (l1.length : Int)) = true := decide_eq_true c3
  clear c3
  by_cases c4 : ((l1.length : Int) : Int).toNat ≤ 35184372088832
  ·rw [if_pos c4] at H
   have c4b0 := eq_true c4
   have c4b1 : decide (((l1.length : Int) : Int).toNat ≤ 35184372088832) = true := decide_eq_true c4
   clear c4
   obtain ⟨y305, hy305⟩ : ∃ y_ : List Int, y_ = (List.replicate ((l1.length : Int) : Int).toNat 0) := ⟨_, rfl⟩
   replace H : ((spec_l1Rd_below.f s0_0 s0_1 4).bind fun bt309 => (spec_l13DrawBook.l0 k l1 bt309.1 0 s0_0 bt309.2 y305 0 0)) = some (r1, r2, r3, r4) := by first | (rw [hy305]; with_reducible exact H) | (have H2_ := (Option.bind_some _ _).symm.trans H; rw [hy305]; with_reducible exact H2_) | (have H2_ := (Option.bind_some _ _).symm.trans H; with_reducible exact H2_) | with_reducible exact H | (rw [hy305]; exact H) | exact H
   have Ny305 := Aside0.mk hy305; clear hy305; replace H := Option.bind_eq_some_iff.mp H
   obtain ⟨⟨t309, t310⟩, A50, H⟩ := H
   replace H : (spec_l13DrawBook.l0 k l1 t309 0 s0_0 t310 y305 0 0) = some (r1, r2, r3, r4) := H
   have A5 := Aside0.mk A50; clear A50; have H' := Aside0.mk H; clear H
   go_enter Try.func51, Try.ntmps51
   go_wp2_with (first | ((with_reducible refine gate_dst (N := 4) rfl ?_); refine box_event ?hg (N := 4) ?hd (cs := #[.slice none 0 0, .int .i64 0, .int .i64 0]) (t := 26) ?hr ?_; (case hd => rfl); (case hg => rfl); (case hr => first | (go_simp; done) | (go_simp; rfl)); intro gb304 hg w6 hbox hb; replace HB := Aside0.mk (below_step (by repeat (first | (with_reducible first | exact HB.out | apply below_alloc | apply pw_below_drewN | apply below_drew1 | refine below_set ?_ (IsS92.ge HI0.out)) | exact HB.out)) hb); have BK304 := Aside0.mk (hbox); have GW304 := Aside0.mk ((by rw [hg]; exact (keep_size (w := w) (g := g) (row := none) (by repeat (first | (with_reducible first | exact HK.out | apply KeepBut.set_ | apply keep_drewN | apply keep_drew | apply keep_alloc) | exact HK.out))) : w.heap.size ≤ gb304)); have GE304 := Aside0.mk ((Nat.le_trans HW0.out (by rw [hg]; exact (keep_size (w := w) (g := g) (row := none) (by repeat (first | (with_reducible first | exact HK.out | apply KeepBut.set_ | apply keep_drewN | apply keep_drew | apply keep_alloc) | exact HK.out))) : w.heap.size ≤ gb304) : w0.heap.size ≤ gb304)); replace HK := Aside0.mk (KeepBut.trans (by repeat (first | (with_reducible first | exact HK.out | apply KeepBut.set_ | apply keep_drewN | apply keep_drew | apply keep_alloc) | exact HK.out)) (KeepBut.of_below hb g none) (.inl rfl)); have NB0_304 := Aside0.mk ((by rw [hg]; exact Nat.ne_of_lt (IsS92.lt (show IsS92 w0 _ g s0_0 s0_1 from by repeat (first | (with_reducible first | exact HI0.out | apply IsS92.alloc | apply IsS92.drewN | apply IsS92.drew | apply IsS92.set_1) | exact HI0.out))) : g ≠ gb304)); have NB304_0 := Aside0.mk ((by rw [hg]; exact Nat.ne_of_gt (IsS92.lt (show IsS92 w0 _ g s0_0 s0_1 from by repeat (first | (with_reducible first | exact HI0.out | apply IsS92.alloc | apply IsS92.drewN | apply IsS92.drew | apply IsS92.set_1) | exact HI0.out))) : gb304 ≠ g)); replace HI0 := Aside0.mk (IsS92.below (by repeat (first | (with_reducible first | exact HI0.out | apply IsS92.alloc | apply IsS92.drewN | apply IsS92.drew | apply IsS92.set_1) | exact HI0.out)) hb); clear hb hbox hg) | ((with_reducible refine gate_dst (N := 12) rfl ?_); refine Kd.R_make (Kd.int .i64) _ 2 rfl (N := 12) rfl 22 _ _ rfl (l1.length : Int) rfl rfl Try.underlying22 (.int .i64 0) 8 info2 rfl (by decide) (by omega) 0 (ok := fun _ => True) (okp := fun _ => True) rfl (fun _ hk => hk) trivial (of_decide_eq_true (by first | (with_reducible assumption) | assumption)) (Nat.le_trans (Nat.mul_le_mul_right _ (of_decide_eq_true (by first | (with_reducible assumption) | assumption) : (l1.length : Int).toNat ≤ 35184372088832)) (by omega)) (Below.refl _ _) (Nat.le_refl _) ?_; intro v306 w7 ho8 hb hg_ hnew_; clear hg_ hnew_; (first | rw [← Ny305.out] at ho8 | (simp only [Int.reduceToNat] at ho8; rw [← Ny305.out] at ho8)); have HO307 := Aside0.mk (Kd.R_lower ho8 (keep_size (w := w) (g := g) (row := none) (by repeat (first | (with_reducible first | exact HK.out | apply KeepBut.set_ | apply keep_drewN | apply keep_drew | apply keep_alloc | refine keep_far ?_ GW304.out _) | exact HK.out)))); replace BK304 := bB_ BK304 hb; replace HK := Aside0.mk (KeepBut.trans (by repeat (first | (with_reducible first | exact HK.out | apply KeepBut.set_ | apply keep_drewN | apply keep_drew | apply keep_alloc | refine keep_far ?_ GW304.out _) | exact HK.out)) (KeepBut.of_below hb g none) (.inl rfl)); replace HB := Aside0.mk (below_step (by repeat (first | (with_reducible first | exact HB.out | apply below_alloc | apply pw_below_drewN | apply below_drew1 | refine below_set ?_ (IsS92.ge HI0.out) | refine below_set ?_ GE304.out) | exact HB.out)) hb); replace HI0 := Aside0.mk (IsS92.below (by repeat (first | (with_reducible first | exact HI0.out | apply IsS92.alloc | apply IsS92.drewN | apply IsS92.drew | apply IsS92.set_1 | refine IsS92.far ?_ NB0_304.out _) | exact HI0.out)) hb); clear hb ho8; obtain ⟨Ao9, co9, eo9⟩ := Kd.R_slice HO307.out; subst eo9) | ((with_reducible refine gate_dst (N := 5) rfl ?_); refine box_event ?hg (N := 5) ?hd (cs := #[.slice none 0 0, .int .i64 0, .int .i64 0]) (t := 26) ?hr ?_; (case hd => rfl); (case hg => rfl); (case hr => first | (go_simp; done) | (go_simp; rfl)); intro gb308 hg w10 hbox hb; replace HO307 := rB_ HO307 hb; replace HB := Aside0.mk (below_step (by repeat (first | (with_reducible first | exact HB.out | apply below_alloc | apply pw_below_drewN | apply below_drew1 | refine below_set ?_ (IsS92.ge HI0.out) | refine below_set ?_ GE304.out) | exact HB.out)) hb); have BK308 := Aside0.mk (hbox); have GW308 := Aside0.mk ((by rw [hg]; exact (keep_size (w := w) (g := g) (row := none) (by repeat (first | (with_reducible first | exact HK.out | apply KeepBut.set_ | apply keep_drewN | apply keep_drew | apply keep_alloc | refine keep_far ?_ GW304.out _) | exact HK.out))) : w.heap.size ≤ gb308)); have GE308 := Aside0.mk ((Nat.le_trans HW0.out (by rw [hg]; exact (keep_size (w := w) (g := g) (row := none) (by repeat (first | (with_reducible first | exact HK.out | apply KeepBut.set_ | apply keep_drewN | apply keep_drew | apply keep_alloc | refine keep_far ?_ GW304.out _) | exact HK.out))) : w.heap.size ≤ gb308) : w0.heap.size ≤ gb308)); replace HK := Aside0.mk (KeepBut.trans (by repeat (first | (with_reducible first | exact HK.out | apply KeepBut.set_ | apply keep_drewN | apply keep_drew | apply keep_alloc | refine keep_far ?_ GW304.out _) | exact HK.out)) (KeepBut.of_below hb g none) (.inl rfl)); have NB304_308 := nL_ BK304 hg; have NB308_304 := nG_ BK304 hg; replace BK304 := bB_ BK304 hb; have NB0_308 := Aside0.mk ((by rw [hg]; exact Nat.ne_of_lt (IsS92.lt (show IsS92 w0 _ g s0_0 s0_1 from by repeat (first | (with_reducible first | exact HI0.out | apply IsS92.alloc | apply IsS92.drewN | apply IsS92.drew | apply IsS92.set_1 | refine IsS92.far ?_ NB0_304.out _) | exact HI0.out))) : g ≠ gb308)); have NB308_0 := Aside0.mk ((by rw [hg]; exact Nat.ne_of_gt (IsS92.lt (show IsS92 w0 _ g s0_0 s0_1 from by repeat (first | (with_reducible first | exact HI0.out | apply IsS92.alloc | apply IsS92.drewN | apply IsS92.drew | apply IsS92.set_1 | refine IsS92.far ?_ NB0_304.out _) | exact HI0.out))) : gb308 ≠ g)); replace HI0 := Aside0.mk (IsS92.below (by repeat (first | (with_reducible first | exact HI0.out | apply IsS92.alloc | apply IsS92.drewN | apply IsS92.drew | apply IsS92.set_1 | refine IsS92.far ?_ NB0_304.out _) | exact HI0.out)) hb); clear hb hbox hg; have hnb11 := NB308_304.out; have hnc11 := NB304_308.out; have hnb12 := NB308_0.out; have hnc12 := NB0_308.out; have hcz13_0 : w10.cell? ⟨gb308, 0, none⟩ = some (.slice none 0 0) := (blk_cell BK308.out 0).trans rfl; have hcz13_1 : w10.cell? ⟨gb308, 1, none⟩ = some (.int .i64 0) := (blk_cell BK308.out 1).trans rfl; have hcz13_2 : w10.cell? ⟨gb308, 2, none⟩ = some (.int .i64 0) := (blk_cell BK308.out 2).trans rfl; have hfz13_0 := blk_frozen BK308.out 0; have hfz13_1 := blk_frozen BK308.out 1; have hfz13_2 := blk_frozen BK308.out 2) | ((with_reducible refine gate_callee (f := 53) rfl ?_); refine gL_ (some 15) Try.func53 #[.pointer (some ⟨g, 0, none⟩), .int .i64 4] ?_; (with_reducible refine (spec_l1Rd_below.calls g s0_0 s0_1 4 t309 t310 w0 _ ?side1 ?side2 A5.out).mono ?_); (case side1 => repeat (first | (with_reducible first | exact HI0.out | apply IsS92.alloc | apply IsS92.drewN | apply IsS92.drew | apply IsS92.set_1 | refine IsS92.far ?_ NB0_304.out _ | refine IsS92.far ?_ NB0_308.out _) | exact HI0.out)); (case side2 => repeat (first | (with_reducible first | exact HB.out | apply below_alloc | apply pw_below_drewN | apply below_drew1 | refine below_set ?_ (IsS92.ge HI0.out) | refine below_set ?_ GE304.out | refine below_set ?_ GE308.out) | exact HB.out)); rintro e w14 ⟨rfl, hi, hb, hk⟩; refine ⟨_, rfl, ?_⟩; replace BK304 := Aside0.mk (KeepBut.blk hk (g' := gb304) (o := .cells #[.slice none 0 0, .int .i64 0, .int .i64 0] 26 (0, 0)) (bF_ BK304 NB304_308) NB304_0.out (by simp)); replace HO307 := Aside0.mk (Kd.R_mono (Kd.R_keep (IsS92.apart (show IsS92 w0 _ g s0_0 s0_1 from by repeat (first | (with_reducible first | exact HI0.out | apply IsS92.alloc | apply IsS92.drewN | apply IsS92.drew | apply IsS92.set_1 | refine IsS92.far ?_ NB0_304.out _ | refine IsS92.far ?_ NB0_308.out _) | exact HI0.out)) (rF_ HO307 BK308) (by decide)) hk (fun _ h => h.2)) (fun _ h => h.1)); replace BK308 := Aside0.mk (KeepBut.blk hk (g' := gb308) (o := .cells #[.slice Ao9 y305.length co9, .int .i64 0, .int .i64 0] 26 (0, 0)) (by (with_reducible repeat (first | refine blk_drewN ?_ _ | refine blk_drew ?_ | refine blk_alloc ?_ _)); refine blk_put (cs := #[.slice Ao9 y305.length co9, .int .i64 0, .int .i64 0]) ?_ 2 _ rfl; (with_reducible repeat (first | refine blk_drewN ?_ _ | refine blk_drew ?_ | refine blk_alloc ?_ _)); refine blk_put (cs := #[.slice Ao9 y305.length co9, .int .i64 0, .int .i64 0]) ?_ 1 _ rfl; (with_reducible repeat (first | refine blk_drewN ?_ _ | refine blk_drew ?_ | refine blk_alloc ?_ _)); refine blk_put (cs := #[.slice none 0 0, .int .i64 0, .int .i64 0]) ?_ 0 _ rfl; exact bT_ BK308) NB308_0.out (by simp)); replace HK := Aside0.mk (KeepBut.trans (by repeat (first | (with_reducible first | exact HK.out | apply KeepBut.set_ | apply keep_drewN | apply keep_drew | apply keep_alloc | refine keep_far ?_ GW304.out _ | refine keep_far ?_ GW308.out _) | exact HK.out)) hk (.inl rfl)); replace HB := Aside0.mk (hb); replace HI0 := Aside0.mk (hi); (try clear hb); (try clear hb2); (try clear hk); (try clear hi)))
   go_loopg [7] k (fun kq v7 w' => ∃ (x7_1 : Int) (x1001_1 : Int) (x309000_1 : List Int) (x309001_1 : Int) (x309002_1 : Int) (u309000 : Value), v7 = .int .i64 x7_1 ∧ Aside0 (spec_l13DrawBook.l0 kq l1 t309 x7_1 s0_0 x1001_1 x309000_1 x309001_1 x309002_1 = some (r1, r2, r3, r4)) ∧ Aside0 (kq ≤ k) ∧ Aside0 (Kd.R (Kd.int .i64) 2 w' w.heap.size (fun _ => True) u309000 x309000_1) ∧ Aside0 (w'.heap[gb304]? = some (.cells #[(.slice none 0 0), .int .i64 0, .int .i64 0] 26 (0, 0))) ∧ Aside0 (w'.heap[gb308]? = some (.cells #[u309000, .int .i64 x309001_1, .int .i64 x309002_1] 26 (0, 0))) ∧ Aside0 (IsS92 w0 w' g s0_0 x1001_1) ∧ Aside0 (KeepBut w w' g none) ∧ Aside0 (Below w0.heap.size w0 w'))
   case atStart => exact ⟨(0), (t310), (y305), (0), (0), (.slice Ao9 y305.length co9), (by first | rfl | (simp; done) | (simp [*]; done)), H', ⟨Nat.le_refl _⟩, ⟨by (with_reducible repeat (first | apply Kd.R_alloc | apply Kd.R_drewN | apply Kd.R_drew)); exact HO307.out⟩, ⟨by exact bT_ BK304⟩, ⟨by exact bT_ BK308⟩, ⟨by repeat (first | (with_reducible first | exact HI0.out | apply IsS92.alloc | apply IsS92.drewN | apply IsS92.drew | apply IsS92.set_1 | refine IsS92.far ?_ NB0_304.out _ | refine IsS92.far ?_ NB0_308.out _) | exact HI0.out)⟩, ⟨by repeat (first | (with_reducible first | exact HK.out | apply KeepBut.set_ | apply keep_drewN | apply keep_drew | apply keep_alloc | refine keep_far ?_ GW304.out _ | refine keep_far ?_ GW308.out _) | exact HK.out)⟩, ⟨by repeat (first | (with_reducible first | exact HB.out | apply below_alloc | apply pw_below_drewN | apply below_drew1 | refine below_set ?_ (IsS92.ge HI0.out) | refine below_set ?_ GE304.out | refine below_set ?_ GE308.out) | exact HB.out)⟩⟩
   case round =>
    clear H'; (try clear c1); (try clear p2); (try clear c3); (try clear c3b0); (try clear c3b1); (try clear c4); (try clear c4b0); (try clear c4b1); (try clear c5); (try clear c11); (try clear c12); (try clear hcz13_0); (try clear hcz13_1); (try clear hcz13_2); (try clear hfz13_0); (try clear hfz13_1); (try clear hfz13_2)
    obtain ⟨x7_1, x1001_1, x309000_1, x309001_1, x309002_1, u309000, rfl, HA, HK1, HO_309000, BK304, BK308, HI0, HK, HB⟩ := hrel
    cases gk with
    | zero => exact absurd HA.out (by simp [spec_l13DrawBook.l0])
    | succ k1 =>
     have H := HA.out; clear HA
     simp only [spec_l13DrawBook.l0] at H
     by_cases c15 : x7_1 < t309
     ·rw [if_pos c15] at H
      have c15b0 : decide (x7_1 < t309) = true := decide_eq_true c15
      clear c15; replace H := Option.bind_eq_some_iff.mp H
      obtain ⟨⟨t311, t314⟩, A160, H⟩ := H
      replace H : ((spec_FlowStep.f k1 l1 x309000_1 x309001_1 x309002_1 t311).bind fun bt315 => (if bt315.2.2.2 = true then (spec_l13DrawBook.l0 k1 l1 t309 (wrap64 (x7_1 + 1)) s0_0 t314 bt315.1 bt315.2.1 bt315.2.2.1) else (spec_l13DrawBook.l0 k1 l1 t309 (wrap64 (x7_1 + 1)) s0_0 t314 x309000_1 x309001_1 x309002_1))) = some (r1, r2, r3, r4) := H
      have A16 := Aside0.mk A160; clear A160; replace H := Option.bind_eq_some_iff.mp H
      obtain ⟨⟨t315, t318, t319, t320⟩, A170, H⟩ := H
      replace H : (if t320 = true then (spec_l13DrawBook.l0 k1 l1 t309 (wrap64 (x7_1 + 1)) s0_0 t314 t315 t318 t319) else (spec_l13DrawBook.l0 k1 l1 t309 (wrap64 (x7_1 + 1)) s0_0 t314 x309000_1 x309001_1 x309002_1)) = some (r1, r2, r3, r4) := H
      have A17 := Aside0.mk A170; clear A170
      by_cases c18 : t320 = true
      ·subst c18
       have H1 : (spec_l13DrawBook.l0 k1 l1 t309 (wrap64 (x7_1 + 1)) s0_0 t314 t315 t318 t319) = some (r1, r2, r3, r4) := by rw [if_pos rfl] at H; exact H
       clear H; have H := H1; clear H1; have H' := Aside0.mk H; clear H
       obtain ⟨Ao19, co19, eo19⟩ := Kd.R_slice HO_309000.out
       subst eo19
       try go_wp2
       replace HO_309000 := Aside0.mk (Kd.R_drew HO_309000.out)
       replace BK304 := Aside0.mk (blk_drew BK304.out)
       replace BK308 := Aside0.mk (blk_drew BK308.out)
       replace HI0 := Aside0.mk (IsS92.drew HI0.out)
       replace HK := Aside0.mk (keep_drew HK.out)
       replace HB := Aside0.mk (below_drew1 HB.out)
       refine start_ (n := 12) (S := fun w' => w'.cell? ⟨gb308, 0, none⟩ = some (.slice Ao19 x309000_1.length co19) ∧ w'.cell? ⟨gb308, 1, none⟩ = some (.int .i64 x309001_1) ∧ w'.cell? ⟨gb308, 2, none⟩ = some (.int .i64 x309002_1)) (ds := []) #[false, false, false, false, false, false, false, false, false, false, false, false] (by kernel_rfl) rfl rfl ⟨(blk_cell BK308.out 0).trans rfl, (blk_cell BK308.out 1).trans rfl, (blk_cell BK308.out 2).trans rfl⟩ (fun hHeld => ?_); refine with_tabW spec_l13DrawBook.tab6 spec_l13DrawBook.bits6 (fun HT_ HW_ => ?_)
       generalize wr.drew = w20 at HO_309000 BK304 BK308 HI0 HK HB hHeld ⊢
       refine pT_ 0 (some 22) #[true, false, false, false, false, false, false, false, false, false, false, false] HT_ ?_
       refine pT_ 2 (some 24) #[true, false, true, false, false, false, false, false, false, false, false, false] HT_ ?_
       refine pT_ 3 (some 25) #[true, false, true, true, false, false, false, false, false, false, false, false] HT_ ?_
       refine tT_ 1 (some 23) #[true, true, true, true, false, false, false, false, false, false, false, false] HT_ HW_ hHeld ?_ (hy := by rintro w' ⟨s0, s1, s2⟩; go_simp; with_reducible rfl)
       refine join_ (σ := Value × Value × Nat) 2 #[true, true, true, true, true, true, true, true, true, true, false, false] (fun s_ => [(26, s_.1), (27, .tuple #[.agg #[s_.2.1, .int .i64 t318, .int .i64 t319], .bool true]), (8, .pointer (some ⟨s_.2.2, 0, none⟩)), (21, .tuple #[.agg #[s_.2.1, .int .i64 t318, .int .i64 t319], .bool true]), (28, .agg #[s_.2.1, .int .i64 t318, .int .i64 t319]), (29, .bool true)]) (fun s_ w' => (w'.cell? ⟨gb308, 0, none⟩ = some (.slice Ao19 x309000_1.length co19) ∧ w'.cell? ⟨gb308, 1, none⟩ = some (.int .i64 x309001_1) ∧ w'.cell? ⟨gb308, 2, none⟩ = some (.int .i64 x309002_1)) ∧ (Kd.R (Kd.int .i64) 2 w' w.heap.size (fun k_ => some k_ ≠ (s_.2.1 : Value).ownBlock ∧ some k_ ≠ (.slice Ao19 x309000_1.length co19 : Value).ownBlock) s_.1 t311) ∧ (Kd.R (Kd.int .i64) 2 w' w.heap.size (fun k_ => some k_ ≠ (s_.1 : Value).ownBlock ∧ some k_ ≠ (.slice Ao19 x309000_1.length co19 : Value).ownBlock) s_.2.1 t315) ∧ (Kd.R (Kd.int .i64) 2 w' w.heap.size (fun k_ => some k_ ≠ (s_.1 : Value).ownBlock ∧ some k_ ≠ (s_.2.1 : Value).ownBlock) (.slice Ao19 x309000_1.length co19) x309000_1) ∧ (w'.heap[gb304]? = some (.cells #[.slice none 0 0, .int .i64 0, .int .i64 0] 26 (0, 0))) ∧ (w'.heap[gb308]? = some (.cells #[.slice Ao19 x309000_1.length co19, .int .i64 x309001_1, .int .i64 x309002_1] 26 (0, 0))) ∧ (w'.heap[s_.2.2]? = some (.cells #[.slice none 0 0, .int .i64 0, .int .i64 0] 26 (0, 0))) ∧ (w.heap.size ≤ s_.2.2) ∧ (w0.heap.size ≤ s_.2.2) ∧ (g ≠ s_.2.2) ∧ (s_.2.2 ≠ g) ∧ (gb304 ≠ s_.2.2) ∧ (s_.2.2 ≠ gb304) ∧ (gb308 ≠ s_.2.2) ∧ (s_.2.2 ≠ gb308) ∧ (IsS92 w0 w' g s0_0 t314) ∧ (KeepBut w w' g none) ∧ (Below w0.heap.size w0 w')) ?_ ?_
       rotate_left
       ·intro hCont
        refine two_ (i := 4) (j := 9) (Ni := some 26) (Nj := some 8) #[true, true, true, true, true, false, false, false, false, false, false, false] #[true, true, true, true, false, false, false, false, false, true, false, false] rfl rfl rfl rfl (two_of HT_.out (by kernel_rfl)) (by decide) (by decide) (fun K hK => ?_) (fun K hK => ?_)
        ·skip
         refine goes_ Try.func52 (by kernel_rfl) rfl #[.pointer (some ⟨g, 0, none⟩), .slice A1 l1.length c1] (by rfl) rfl rfl (by (try simp only [List.map_toArray, List.map_cons, List.map_nil]); first | done | rfl | (simp only [List.length_drop, List.length_take]; rfl)) ?_
         with_reducible refine (spec_l13DrawRain.calls k1 g s0_0 x1001_1 _ _ l1 t311 t314 w0 _ ?side1 ?side2 ?side3 ?side4 ?side5 A16.out).mono ?_
         (case side1 => repeat (first | (with_reducible first | exact HI0.out | apply IsS92.alloc | apply IsS92.drewN | apply IsS92.drew | apply IsS92.set_1 | refine IsS92.far ?_ NB0_304.out _ | refine IsS92.far ?_ NB0_308.out _) | exact HI0.out))
         (case side2 => repeat (first | (with_reducible first | exact HB.out | apply below_alloc | apply pw_below_drewN | apply below_drew1 | refine below_set ?_ (IsS92.ge HI0.out) | refine below_set ?_ GE304.out | refine below_set ?_ GE308.out) | exact HB.out))
         (case side3 => exact Kd.C_keep 0 HR1.out (by repeat (first | (with_reducible first | exact HK.out | apply KeepBut.set_ | apply keep_drewN | apply keep_drew | apply keep_alloc | refine keep_far ?_ GW304.out _ | refine keep_far ?_ GW308.out _) | exact HK.out)) hf1)
         (case side4 => exact HC1.out)
         (case side5 => exact hf1)
         rintro e w21 ⟨v312, rfl, ho0, hi, hb, hk⟩
         refine ⟨_, rfl, ?_⟩
         replace BK304 := Aside0.mk (KeepBut.blk hk (g' := gb304) (o := .cells #[.slice none 0 0, .int .i64 0, .int .i64 0] 26 (0, 0)) (bT_ BK304) NB304_0.out (by simp))
         replace BK308 := Aside0.mk (KeepBut.blk hk (g' := gb308) (o := .cells #[.slice Ao19 x309000_1.length co19, .int .i64 x309001_1, .int .i64 x309002_1] 26 (0, 0)) (bT_ BK308) NB308_0.out (by simp))
         have HO313 := Aside0.mk (Kd.R_lower (rN_ ho0 HO_309000) (keep_size (w := w) (g := g) (row := none) (by repeat (first | (with_reducible first | exact HK.out | apply KeepBut.set_ | apply keep_drewN | apply keep_drew | apply keep_alloc | refine keep_far ?_ GW304.out _ | refine keep_far ?_ GW308.out _) | exact HK.out))))
         replace HO_309000 := Aside0.mk (Kd.R_mono (Kd.R_told (Kd.R_oldK (IsS92.apart (show IsS92 w0 _ g s0_0 x1001_1 from by repeat (first | (with_reducible first | exact HI0.out | apply IsS92.alloc | apply IsS92.drewN | apply IsS92.drew | apply IsS92.set_1 | refine IsS92.far ?_ NB0_304.out _ | refine IsS92.far ?_ NB0_308.out _) | exact HI0.out)) (rT_ HO_309000) (by decide)) hk) (Kd.R_base ho0)) (fun _ h_ => h_.1))
         replace HK := Aside0.mk (KeepBut.trans (by repeat (first | (with_reducible first | exact HK.out | apply KeepBut.set_ | apply keep_drewN | apply keep_drew | apply keep_alloc | refine keep_far ?_ GW304.out _ | refine keep_far ?_ GW308.out _) | exact HK.out)) hk (.inl rfl))
         replace HB := Aside0.mk (hb)
         replace HI0 := Aside0.mk (hi)
         (try clear hb); (try clear hb2); (try clear hk); (try clear hi); (try clear ho0)
         obtain ⟨Ao22, co22, eo22⟩ := Kd.R_slice HO313.out
         (first | subst eo22 | (injection eo22 with f1_ f2_ f3_; have f4_ := f1_.symm; have f5_ := f3_.symm; clear f1_ f2_ f3_; subst f4_; subst f5_))
         refine hK.out _ _ ⟨(blk_cell BK308.out 0).trans rfl, (blk_cell BK308.out 1).trans rfl, (blk_cell BK308.out 2).trans rfl⟩ (fun hHeld => ?_)
         clear hK K
         refine nS_ (some 26) ?_
         refine two_ (i := 5) (j := 9) (Ni := some 27) (Nj := some 8) #[true, true, true, true, true, true, false, false, false, false, false, false] #[true, true, true, true, true, false, false, false, false, true, false, false] rfl rfl rfl rfl (two_of HT_.out (by kernel_rfl)) (by decide) (by decide) (fun K hK => ?_) (fun K hK => ?_)
         ·skip
          refine goes_ Try.func10 (by kernel_rfl) rfl #[.slice A1 l1.length c1, .agg #[.slice Ao19 x309000_1.length co19, .int .i64 x309001_1, .int .i64 x309002_1], .slice Ao22 t311.length co22] (by rfl) rfl rfl (by (try simp only [List.map_toArray, List.map_cons, List.map_nil]); first | done | rfl | (simp only [List.length_drop, List.length_take]; rfl)) ?_
          with_reducible refine (spec_FlowStep.calls k1 _ _ l1 _ _ x309000_1 x309001_1 x309002_1 _ _ t311 t315 t318 t319 true _ ?side1 ?side2 ?side3 ?side4 ?side5 ?side6 A17.out).mono ?_
          (case side1 => exact Kd.C_keep 0 HR1.out (by repeat (first | (with_reducible first | exact HK.out | apply KeepBut.set_ | apply keep_drewN | apply keep_drew | apply keep_alloc | refine keep_far ?_ GW304.out _ | refine keep_far ?_ GW308.out _) | exact HK.out)) hf1)
          (case side2 => exact HC1.out)
          (case side3 => exact rD_ HO_309000)
          (case side4 => exact (Kd.R_reads' HO_309000.out).2.1)
          (case side5 => exact rD_ HO313)
          (case side6 => exact (Kd.R_reads' HO313.out).2.1)
          rintro e w23 ⟨v316, rfl, ho0, hb⟩
          refine ⟨_, rfl, ?_⟩
          have HO317 := Aside0.mk (Kd.R_lower (rN_ (rN_ ho0 HO_309000) HO313) (keep_size (w := w) (g := g) (row := none) (by repeat (first | (with_reducible first | exact HK.out | apply KeepBut.set_ | apply keep_drewN | apply keep_drew | apply keep_alloc | refine keep_far ?_ GW304.out _ | refine keep_far ?_ GW308.out _) | exact HK.out))))
          replace HO_309000 := rE_ HO_309000 ho0 hb; replace HO313 := rE_ HO313 ho0 hb; replace BK304 := bB_ BK304 hb; replace BK308 := bB_ BK308 hb
          replace HK := Aside0.mk (KeepBut.trans (by repeat (first | (with_reducible first | exact HK.out | apply KeepBut.set_ | apply keep_drewN | apply keep_drew | apply keep_alloc | refine keep_far ?_ GW304.out _ | refine keep_far ?_ GW308.out _) | exact HK.out)) (KeepBut.of_below hb g none) (.inl rfl))
          replace HB := Aside0.mk (below_step (by repeat (first | (with_reducible first | exact HB.out | apply below_alloc | apply pw_below_drewN | apply below_drew1 | refine below_set ?_ (IsS92.ge HI0.out) | refine below_set ?_ GE304.out | refine below_set ?_ GE308.out) | exact HB.out)) hb)
          replace HI0 := Aside0.mk (IsS92.below (by repeat (first | (with_reducible first | exact HI0.out | apply IsS92.alloc | apply IsS92.drewN | apply IsS92.drew | apply IsS92.set_1 | refine IsS92.far ?_ NB0_304.out _ | refine IsS92.far ?_ NB0_308.out _) | exact HI0.out)) hb)
          (try clear hb); (try clear hb2); (try clear hk); (try clear hi); (try clear ho0)
          refine hK.out _ _ ⟨(blk_cell BK308.out 0).trans rfl, (blk_cell BK308.out 1).trans rfl, (blk_cell BK308.out 2).trans rfl⟩ (fun hHeld => ?_)
          clear hK K
          refine nS_ (some 27) ?_
          refine pT_ 6 (some 21) #[true, true, true, true, true, true, true, false, false, false, false, false] HT_ ?_
          refine pT_ 7 (some 28) #[true, true, true, true, true, true, true, true, false, false, false, false] HT_ ?_
          refine pT_ 8 (some 29) #[true, true, true, true, true, true, true, true, true, false, false, false] HT_ ?_
          refine one_ (i := 9) (N := some 8) #[true, true, true, true, true, true, true, true, true, true, false, false] rfl rfl (one_of HT_.out (by kernel_rfl)) (by decide) (fun K hK => ?_)
          refine box_step ?hg (N := 8) ?hd (cs := #[.slice none 0 0, .int .i64 0, .int .i64 0]) (t := 26) ?hr ?_; (case hd => rfl); (case hg => rfl); (case hr => first | (go_simp; done) | (go_simp; rfl))
          intro gb321 hg w24 hbox hb
          replace HO_309000 := rB_ HO_309000 hb; replace HO313 := rB_ HO313 hb; replace HO317 := rB_ HO317 hb
          replace HB := Aside0.mk (below_step (by repeat (first | (with_reducible first | exact HB.out | apply below_alloc | apply pw_below_drewN | apply below_drew1 | refine below_set ?_ (IsS92.ge HI0.out) | refine below_set ?_ GE304.out | refine below_set ?_ GE308.out) | exact HB.out)) hb)
          have BK321 := Aside0.mk (hbox)
          have GW321 := Aside0.mk ((by rw [hg]; exact (keep_size (w := w) (g := g) (row := none) (by repeat (first | (with_reducible first | exact HK.out | apply KeepBut.set_ | apply keep_drewN | apply keep_drew | apply keep_alloc | refine keep_far ?_ GW304.out _ | refine keep_far ?_ GW308.out _) | exact HK.out))) : w.heap.size ≤ gb321))
          have GE321 := Aside0.mk ((Nat.le_trans HW0.out (by rw [hg]; exact (keep_size (w := w) (g := g) (row := none) (by repeat (first | (with_reducible first | exact HK.out | apply KeepBut.set_ | apply keep_drewN | apply keep_drew | apply keep_alloc | refine keep_far ?_ GW304.out _ | refine keep_far ?_ GW308.out _) | exact HK.out))) : w.heap.size ≤ gb321) : w0.heap.size ≤ gb321))
          replace HK := Aside0.mk (KeepBut.trans (by repeat (first | (with_reducible first | exact HK.out | apply KeepBut.set_ | apply keep_drewN | apply keep_drew | apply keep_alloc | refine keep_far ?_ GW304.out _ | refine keep_far ?_ GW308.out _) | exact HK.out)) (KeepBut.of_below hb g none) (.inl rfl))
          have NB304_321 := nL_ BK304 hg; have NB321_304 := nG_ BK304 hg; replace BK304 := bB_ BK304 hb; have NB308_321 := nL_ BK308 hg; have NB321_308 := nG_ BK308 hg; replace BK308 := bB_ BK308 hb
          have NB0_321 := Aside0.mk ((by rw [hg]; exact Nat.ne_of_lt (IsS92.lt (show IsS92 w0 _ g s0_0 t314 from by repeat (first | (with_reducible first | exact HI0.out | apply IsS92.alloc | apply IsS92.drewN | apply IsS92.drew | apply IsS92.set_1 | refine IsS92.far ?_ NB0_304.out _ | refine IsS92.far ?_ NB0_308.out _) | exact HI0.out))) : g ≠ gb321))
          have NB321_0 := Aside0.mk ((by rw [hg]; exact Nat.ne_of_gt (IsS92.lt (show IsS92 w0 _ g s0_0 t314 from by repeat (first | (with_reducible first | exact HI0.out | apply IsS92.alloc | apply IsS92.drewN | apply IsS92.drew | apply IsS92.set_1 | refine IsS92.far ?_ NB0_304.out _ | refine IsS92.far ?_ NB0_308.out _) | exact HI0.out))) : gb321 ≠ g))
          replace HI0 := Aside0.mk (IsS92.below (by repeat (first | (with_reducible first | exact HI0.out | apply IsS92.alloc | apply IsS92.drewN | apply IsS92.drew | apply IsS92.set_1 | refine IsS92.far ?_ NB0_304.out _ | refine IsS92.far ?_ NB0_308.out _) | exact HI0.out)) hb)
          clear hb hbox hg
          refine hK.out _ _ ⟨(blk_cell BK308.out 0).trans rfl, (blk_cell BK308.out 1).trans rfl, (blk_cell BK308.out 2).trans rfl⟩ (fun hHeld => ?_)
          clear hK K
          refine nS_ (some 8) ?_
          exact norm_ (by simp only [putAll, Act.put, List.setIfInBounds_toArray, List.set_cons_zero, List.set_cons_succ]) (hCont (.slice Ao22 t311.length co22, v316, gb321) _ ⟨hHeld, (rM_ HO313), (rM_ HO317), (rM_ HO_309000), (bT_ BK304), (bT_ BK308), (bT_ BK321), GW321.out, GE321.out, NB0_321.out, NB321_0.out, NB304_321.out, NB321_304.out, NB308_321.out, NB321_308.out, (by repeat (first | (with_reducible first | exact HI0.out | apply IsS92.alloc | apply IsS92.drewN | apply IsS92.drew | apply IsS92.set_1 | refine IsS92.far ?_ NB0_304.out _ | refine IsS92.far ?_ NB0_308.out _ | refine IsS92.far ?_ NB0_321.out _) | exact HI0.out)), (by repeat (first | (with_reducible first | exact HK.out | apply KeepBut.set_ | apply keep_drewN | apply keep_drew | apply keep_alloc | refine keep_far ?_ GW304.out _ | refine keep_far ?_ GW308.out _ | refine keep_far ?_ GW321.out _) | exact HK.out)), (by repeat (first | (with_reducible first | exact HB.out | apply below_alloc | apply pw_below_drewN | apply below_drew1 | refine below_set ?_ (IsS92.ge HI0.out) | refine below_set ?_ GE304.out | refine below_set ?_ GE308.out | refine below_set ?_ GE321.out) | exact HB.out))⟩)
         ·skip
          refine box_step ?hg (N := 8) ?hd (cs := #[.slice none 0 0, .int .i64 0, .int .i64 0]) (t := 26) ?hr ?_; (case hd => rfl); (case hg => rfl); (case hr => first | (go_simp; done) | (go_simp; rfl))
          intro gb321 hg w22 hbox hb
          replace HO_309000 := rB_ HO_309000 hb; replace HO313 := rB_ HO313 hb
          replace HB := Aside0.mk (below_step (by repeat (first | (with_reducible first | exact HB.out | apply below_alloc | apply pw_below_drewN | apply below_drew1 | refine below_set ?_ (IsS92.ge HI0.out) | refine below_set ?_ GE304.out | refine below_set ?_ GE308.out) | exact HB.out)) hb)
          have BK321 := Aside0.mk (hbox)
          have GW321 := Aside0.mk ((by rw [hg]; exact (keep_size (w := w) (g := g) (row := none) (by repeat (first | (with_reducible first | exact HK.out | apply KeepBut.set_ | apply keep_drewN | apply keep_drew | apply keep_alloc | refine keep_far ?_ GW304.out _ | refine keep_far ?_ GW308.out _) | exact HK.out))) : w.heap.size ≤ gb321))
          have GE321 := Aside0.mk ((Nat.le_trans HW0.out (by rw [hg]; exact (keep_size (w := w) (g := g) (row := none) (by repeat (first | (with_reducible first | exact HK.out | apply KeepBut.set_ | apply keep_drewN | apply keep_drew | apply keep_alloc | refine keep_far ?_ GW304.out _ | refine keep_far ?_ GW308.out _) | exact HK.out))) : w.heap.size ≤ gb321) : w0.heap.size ≤ gb321))
          replace HK := Aside0.mk (KeepBut.trans (by repeat (first | (with_reducible first | exact HK.out | apply KeepBut.set_ | apply keep_drewN | apply keep_drew | apply keep_alloc | refine keep_far ?_ GW304.out _ | refine keep_far ?_ GW308.out _) | exact HK.out)) (KeepBut.of_below hb g none) (.inl rfl))
          have NB304_321 := nL_ BK304 hg; have NB321_304 := nG_ BK304 hg; replace BK304 := bB_ BK304 hb; have NB308_321 := nL_ BK308 hg; have NB321_308 := nG_ BK308 hg; replace BK308 := bB_ BK308 hb
          have NB0_321 := Aside0.mk ((by rw [hg]; exact Nat.ne_of_lt (IsS92.lt (show IsS92 w0 _ g s0_0 t314 from by repeat (first | (with_reducible first | exact HI0.out | apply IsS92.alloc | apply IsS92.drewN | apply IsS92.drew | apply IsS92.set_1 | refine IsS92.far ?_ NB0_304.out _ | refine IsS92.far ?_ NB0_308.out _) | exact HI0.out))) : g ≠ gb321))
          have NB321_0 := Aside0.mk ((by rw [hg]; exact Nat.ne_of_gt (IsS92.lt (show IsS92 w0 _ g s0_0 t314 from by repeat (first | (with_reducible first | exact HI0.out | apply IsS92.alloc | apply IsS92.drewN | apply IsS92.drew | apply IsS92.set_1 | refine IsS92.far ?_ NB0_304.out _ | refine IsS92.far ?_ NB0_308.out _) | exact HI0.out))) : gb321 ≠ g))
          replace HI0 := Aside0.mk (IsS92.below (by repeat (first | (with_reducible first | exact HI0.out | apply IsS92.alloc | apply IsS92.drewN | apply IsS92.drew | apply IsS92.set_1 | refine IsS92.far ?_ NB0_304.out _ | refine IsS92.far ?_ NB0_308.out _) | exact HI0.out)) hb)
          clear hb hbox hg
          obtain ⟨Ao23, co23, eo23⟩ := Kd.R_slice HO313.out
          (first | subst eo23 | (injection eo23 with f1_ f2_ f3_; have f4_ := f1_.symm; have f5_ := f3_.symm; clear f1_ f2_ f3_; subst f4_; subst f5_))
          refine hK.out _ _ ⟨(blk_cell BK308.out 0).trans rfl, (blk_cell BK308.out 1).trans rfl, (blk_cell BK308.out 2).trans rfl⟩ (fun hHeld => ?_)
          clear hK K
          refine nS_ (some 8) ?_
          refine one_ (i := 5) (N := some 27) #[true, true, true, true, true, true, false, false, false, true, false, false] rfl rfl (one_of HT_.out (by kernel_rfl)) (by decide) (fun K hK => ?_)
          refine goes_ Try.func10 (by kernel_rfl) rfl #[.slice A1 l1.length c1, .agg #[.slice Ao19 x309000_1.length co19, .int .i64 x309001_1, .int .i64 x309002_1], .slice Ao23 t311.length co23] (by rfl) rfl rfl (by (try simp only [List.map_toArray, List.map_cons, List.map_nil]); first | done | rfl | (simp only [List.length_drop, List.length_take]; rfl)) ?_
          with_reducible refine (spec_FlowStep.calls k1 _ _ l1 _ _ x309000_1 x309001_1 x309002_1 _ _ t311 t315 t318 t319 true _ ?side1 ?side2 ?side3 ?side4 ?side5 ?side6 A17.out).mono ?_
          (case side1 => exact Kd.C_keep 0 HR1.out (by repeat (first | (with_reducible first | exact HK.out | apply KeepBut.set_ | apply keep_drewN | apply keep_drew | apply keep_alloc | refine keep_far ?_ GW304.out _ | refine keep_far ?_ GW308.out _ | refine keep_far ?_ GW321.out _) | exact HK.out)) hf1)
          (case side2 => exact HC1.out)
          (case side3 => exact rD_ HO_309000)
          (case side4 => exact (Kd.R_reads' HO_309000.out).2.1)
          (case side5 => exact rD_ HO313)
          (case side6 => exact (Kd.R_reads' HO313.out).2.1)
          rintro e w24 ⟨v316, rfl, ho0, hb⟩
          refine ⟨_, rfl, ?_⟩
          have HO317 := Aside0.mk (Kd.R_lower (rN_ (rN_ ho0 HO_309000) HO313) (keep_size (w := w) (g := g) (row := none) (by repeat (first | (with_reducible first | exact HK.out | apply KeepBut.set_ | apply keep_drewN | apply keep_drew | apply keep_alloc | refine keep_far ?_ GW304.out _ | refine keep_far ?_ GW308.out _ | refine keep_far ?_ GW321.out _) | exact HK.out))))
          replace HO_309000 := rE_ HO_309000 ho0 hb; replace HO313 := rE_ HO313 ho0 hb; replace BK304 := bB_ BK304 hb; replace BK308 := bB_ BK308 hb; replace BK321 := bB_ BK321 hb
          replace HK := Aside0.mk (KeepBut.trans (by repeat (first | (with_reducible first | exact HK.out | apply KeepBut.set_ | apply keep_drewN | apply keep_drew | apply keep_alloc | refine keep_far ?_ GW304.out _ | refine keep_far ?_ GW308.out _ | refine keep_far ?_ GW321.out _) | exact HK.out)) (KeepBut.of_below hb g none) (.inl rfl))
          replace HB := Aside0.mk (below_step (by repeat (first | (with_reducible first | exact HB.out | apply below_alloc | apply pw_below_drewN | apply below_drew1 | refine below_set ?_ (IsS92.ge HI0.out) | refine below_set ?_ GE304.out | refine below_set ?_ GE308.out | refine below_set ?_ GE321.out) | exact HB.out)) hb)
          replace HI0 := Aside0.mk (IsS92.below (by repeat (first | (with_reducible first | exact HI0.out | apply IsS92.alloc | apply IsS92.drewN | apply IsS92.drew | apply IsS92.set_1 | refine IsS92.far ?_ NB0_304.out _ | refine IsS92.far ?_ NB0_308.out _ | refine IsS92.far ?_ NB0_321.out _) | exact HI0.out)) hb)
          (try clear hb); (try clear hb2); (try clear hk); (try clear hi); (try clear ho0)
          refine hK.out _ _ ⟨(blk_cell BK308.out 0).trans rfl, (blk_cell BK308.out 1).trans rfl, (blk_cell BK308.out 2).trans rfl⟩ (fun hHeld => ?_)
          clear hK K
          refine nS_ (some 27) ?_
          refine pT_ 6 (some 21) #[true, true, true, true, true, true, true, false, false, true, false, false] HT_ ?_
          refine pT_ 7 (some 28) #[true, true, true, true, true, true, true, true, false, true, false, false] HT_ ?_
          refine pT_ 8 (some 29) #[true, true, true, true, true, true, true, true, true, true, false, false] HT_ ?_
          exact norm_ (by simp only [putAll, Act.put, List.setIfInBounds_toArray, List.set_cons_zero, List.set_cons_succ]) (hCont (.slice Ao23 t311.length co23, v316, gb321) _ ⟨hHeld, (rM_ HO313), (rM_ HO317), (rM_ HO_309000), (bT_ BK304), (bT_ BK308), (bT_ BK321), GW321.out, GE321.out, NB0_321.out, NB321_0.out, NB304_321.out, NB321_304.out, NB308_321.out, NB321_308.out, (by repeat (first | (with_reducible first | exact HI0.out | apply IsS92.alloc | apply IsS92.drewN | apply IsS92.drew | apply IsS92.set_1 | refine IsS92.far ?_ NB0_304.out _ | refine IsS92.far ?_ NB0_308.out _ | refine IsS92.far ?_ NB0_321.out _) | exact HI0.out)), (by repeat (first | (with_reducible first | exact HK.out | apply KeepBut.set_ | apply keep_drewN | apply keep_drew | apply keep_alloc | refine keep_far ?_ GW304.out _ | refine keep_far ?_ GW308.out _ | refine keep_far ?_ GW321.out _) | exact HK.out)), (by repeat (first | (with_reducible first | exact HB.out | apply below_alloc | apply pw_below_drewN | apply below_drew1 | refine below_set ?_ (IsS92.ge HI0.out) | refine below_set ?_ GE304.out | refine below_set ?_ GE308.out | refine below_set ?_ GE321.out) | exact HB.out))⟩)
        ·skip
         refine box_step ?hg (N := 8) ?hd (cs := #[.slice none 0 0, .int .i64 0, .int .i64 0]) (t := 26) ?hr ?_; (case hd => rfl); (case hg => rfl); (case hr => first | (go_simp; done) | (go_simp; rfl))
         intro gb321 hg w21 hbox hb
         replace HO_309000 := rB_ HO_309000 hb
         replace HB := Aside0.mk (below_step (by repeat (first | (with_reducible first | exact HB.out | apply below_alloc | apply pw_below_drewN | apply below_drew1 | refine below_set ?_ (IsS92.ge HI0.out) | refine below_set ?_ GE304.out | refine below_set ?_ GE308.out) | exact HB.out)) hb)
         have BK321 := Aside0.mk (hbox)
         have GW321 := Aside0.mk ((by rw [hg]; exact (keep_size (w := w) (g := g) (row := none) (by repeat (first | (with_reducible first | exact HK.out | apply KeepBut.set_ | apply keep_drewN | apply keep_drew | apply keep_alloc | refine keep_far ?_ GW304.out _ | refine keep_far ?_ GW308.out _) | exact HK.out))) : w.heap.size ≤ gb321))
         have GE321 := Aside0.mk ((Nat.le_trans HW0.out (by rw [hg]; exact (keep_size (w := w) (g := g) (row := none) (by repeat (first | (with_reducible first | exact HK.out | apply KeepBut.set_ | apply keep_drewN | apply keep_drew | apply keep_alloc | refine keep_far ?_ GW304.out _ | refine keep_far ?_ GW308.out _) | exact HK.out))) : w.heap.size ≤ gb321) : w0.heap.size ≤ gb321))
         replace HK := Aside0.mk (KeepBut.trans (by repeat (first | (with_reducible first | exact HK.out | apply KeepBut.set_ | apply keep_drewN | apply keep_drew | apply keep_alloc | refine keep_far ?_ GW304.out _ | refine keep_far ?_ GW308.out _) | exact HK.out)) (KeepBut.of_below hb g none) (.inl rfl))
         have NB304_321 := nL_ BK304 hg; have NB321_304 := nG_ BK304 hg; replace BK304 := bB_ BK304 hb; have NB308_321 := nL_ BK308 hg; have NB321_308 := nG_ BK308 hg; replace BK308 := bB_ BK308 hb
         have NB0_321 := Aside0.mk ((by rw [hg]; exact Nat.ne_of_lt (IsS92.lt (show IsS92 w0 _ g s0_0 x1001_1 from by repeat (first | (with_reducible first | exact HI0.out | apply IsS92.alloc | apply IsS92.drewN | apply IsS92.drew | apply IsS92.set_1 | refine IsS92.far ?_ NB0_304.out _ | refine IsS92.far ?_ NB0_308.out _) | exact HI0.out))) : g ≠ gb321))
         have NB321_0 := Aside0.mk ((by rw [hg]; exact Nat.ne_of_gt (IsS92.lt (show IsS92 w0 _ g s0_0 x1001_1 from by repeat (first | (with_reducible first | exact HI0.out | apply IsS92.alloc | apply IsS92.drewN | apply IsS92.drew | apply IsS92.set_1 | refine IsS92.far ?_ NB0_304.out _ | refine IsS92.far ?_ NB0_308.out _) | exact HI0.out))) : gb321 ≠ g))
         replace HI0 := Aside0.mk (IsS92.below (by repeat (first | (with_reducible first | exact HI0.out | apply IsS92.alloc | apply IsS92.drewN | apply IsS92.drew | apply IsS92.set_1 | refine IsS92.far ?_ NB0_304.out _ | refine IsS92.far ?_ NB0_308.out _) | exact HI0.out)) hb)
         clear hb hbox hg
         refine hK.out _ _ ⟨(blk_cell BK308.out 0).trans rfl, (blk_cell BK308.out 1).trans rfl, (blk_cell BK308.out 2).trans rfl⟩ (fun hHeld => ?_)
         clear hK K
         refine nS_ (some 8) ?_
         refine one_ (i := 4) (N := some 26) #[true, true, true, true, true, false, false, false, false, true, false, false] rfl rfl (one_of HT_.out (by kernel_rfl)) (by decide) (fun K hK => ?_)
         refine goes_ Try.func52 (by kernel_rfl) rfl #[.pointer (some ⟨g, 0, none⟩), .slice A1 l1.length c1] (by rfl) rfl rfl (by (try simp only [List.map_toArray, List.map_cons, List.map_nil]); first | done | rfl | (simp only [List.length_drop, List.length_take]; rfl)) ?_
         with_reducible refine (spec_l13DrawRain.calls k1 g s0_0 x1001_1 _ _ l1 t311 t314 w0 _ ?side1 ?side2 ?side3 ?side4 ?side5 A16.out).mono ?_
         (case side1 => repeat (first | (with_reducible first | exact HI0.out | apply IsS92.alloc | apply IsS92.drewN | apply IsS92.drew | apply IsS92.set_1 | refine IsS92.far ?_ NB0_304.out _ | refine IsS92.far ?_ NB0_308.out _ | refine IsS92.far ?_ NB0_321.out _) | exact HI0.out))
         (case side2 => repeat (first | (with_reducible first | exact HB.out | apply below_alloc | apply pw_below_drewN | apply below_drew1 | refine below_set ?_ (IsS92.ge HI0.out) | refine below_set ?_ GE304.out | refine below_set ?_ GE308.out | refine below_set ?_ GE321.out) | exact HB.out))
         (case side3 => exact Kd.C_keep 0 HR1.out (by repeat (first | (with_reducible first | exact HK.out | apply KeepBut.set_ | apply keep_drewN | apply keep_drew | apply keep_alloc | refine keep_far ?_ GW304.out _ | refine keep_far ?_ GW308.out _ | refine keep_far ?_ GW321.out _) | exact HK.out)) hf1)
         (case side4 => exact HC1.out)
         (case side5 => exact hf1)
         rintro e w22 ⟨v312, rfl, ho0, hi, hb, hk⟩
         refine ⟨_, rfl, ?_⟩
         replace BK304 := Aside0.mk (KeepBut.blk hk (g' := gb304) (o := .cells #[.slice none 0 0, .int .i64 0, .int .i64 0] 26 (0, 0)) (bT_ BK304) NB304_0.out (by simp))
         replace BK308 := Aside0.mk (KeepBut.blk hk (g' := gb308) (o := .cells #[.slice Ao19 x309000_1.length co19, .int .i64 x309001_1, .int .i64 x309002_1] 26 (0, 0)) (bT_ BK308) NB308_0.out (by simp))
         replace BK321 := Aside0.mk (KeepBut.blk hk (g' := gb321) (o := .cells #[.slice none 0 0, .int .i64 0, .int .i64 0] 26 (0, 0)) (bT_ BK321) NB321_0.out (by simp))
         have HO313 := Aside0.mk (Kd.R_lower (rN_ ho0 HO_309000) (keep_size (w := w) (g := g) (row := none) (by repeat (first | (with_reducible first | exact HK.out | apply KeepBut.set_ | apply keep_drewN | apply keep_drew | apply keep_alloc | refine keep_far ?_ GW304.out _ | refine keep_far ?_ GW308.out _ | refine keep_far ?_ GW321.out _) | exact HK.out))))
         replace HO_309000 := Aside0.mk (Kd.R_mono (Kd.R_told (Kd.R_oldK (IsS92.apart (show IsS92 w0 _ g s0_0 x1001_1 from by repeat (first | (with_reducible first | exact HI0.out | apply IsS92.alloc | apply IsS92.drewN | apply IsS92.drew | apply IsS92.set_1 | refine IsS92.far ?_ NB0_304.out _ | refine IsS92.far ?_ NB0_308.out _ | refine IsS92.far ?_ NB0_321.out _) | exact HI0.out)) (rT_ HO_309000) (by decide)) hk) (Kd.R_base ho0)) (fun _ h_ => h_.1))
         replace HK := Aside0.mk (KeepBut.trans (by repeat (first | (with_reducible first | exact HK.out | apply KeepBut.set_ | apply keep_drewN | apply keep_drew | apply keep_alloc | refine keep_far ?_ GW304.out _ | refine keep_far ?_ GW308.out _ | refine keep_far ?_ GW321.out _) | exact HK.out)) hk (.inl rfl))
         replace HB := Aside0.mk (hb)
         replace HI0 := Aside0.mk (hi)
         (try clear hb); (try clear hb2); (try clear hk); (try clear hi); (try clear ho0)
         obtain ⟨Ao23, co23, eo23⟩ := Kd.R_slice HO313.out
         (first | subst eo23 | (injection eo23 with f1_ f2_ f3_; have f4_ := f1_.symm; have f5_ := f3_.symm; clear f1_ f2_ f3_; subst f4_; subst f5_))
         refine hK.out _ _ ⟨(blk_cell BK308.out 0).trans rfl, (blk_cell BK308.out 1).trans rfl, (blk_cell BK308.out 2).trans rfl⟩ (fun hHeld => ?_)
         clear hK K
         refine nS_ (some 26) ?_
         refine one_ (i := 5) (N := some 27) #[true, true, true, true, true, true, false, false, false, true, false, false] rfl rfl (one_of HT_.out (by kernel_rfl)) (by decide) (fun K hK => ?_)
         refine goes_ Try.func10 (by kernel_rfl) rfl #[.slice A1 l1.length c1, .agg #[.slice Ao19 x309000_1.length co19, .int .i64 x309001_1, .int .i64 x309002_1], .slice Ao23 t311.length co23] (by rfl) rfl rfl (by (try simp only [List.map_toArray, List.map_cons, List.map_nil]); first | done | rfl | (simp only [List.length_drop, List.length_take]; rfl)) ?_
         with_reducible refine (spec_FlowStep.calls k1 _ _ l1 _ _ x309000_1 x309001_1 x309002_1 _ _ t311 t315 t318 t319 true _ ?side1 ?side2 ?side3 ?side4 ?side5 ?side6 A17.out).mono ?_
         (case side1 => exact Kd.C_keep 0 HR1.out (by repeat (first | (with_reducible first | exact HK.out | apply KeepBut.set_ | apply keep_drewN | apply keep_drew | apply keep_alloc | refine keep_far ?_ GW304.out _ | refine keep_far ?_ GW308.out _ | refine keep_far ?_ GW321.out _) | exact HK.out)) hf1)
         (case side2 => exact HC1.out)
         (case side3 => exact rD_ HO_309000)
         (case side4 => exact (Kd.R_reads' HO_309000.out).2.1)
         (case side5 => exact rD_ HO313)
         (case side6 => exact (Kd.R_reads' HO313.out).2.1)
         rintro e w24 ⟨v316, rfl, ho0, hb⟩
         refine ⟨_, rfl, ?_⟩
         have HO317 := Aside0.mk (Kd.R_lower (rN_ (rN_ ho0 HO_309000) HO313) (keep_size (w := w) (g := g) (row := none) (by repeat (first | (with_reducible first | exact HK.out | apply KeepBut.set_ | apply keep_drewN | apply keep_drew | apply keep_alloc | refine keep_far ?_ GW304.out _ | refine keep_far ?_ GW308.out _ | refine keep_far ?_ GW321.out _) | exact HK.out))))
         replace HO_309000 := rE_ HO_309000 ho0 hb; replace HO313 := rE_ HO313 ho0 hb; replace BK304 := bB_ BK304 hb; replace BK308 := bB_ BK308 hb; replace BK321 := bB_ BK321 hb
         replace HK := Aside0.mk (KeepBut.trans (by repeat (first | (with_reducible first | exact HK.out | apply KeepBut.set_ | apply keep_drewN | apply keep_drew | apply keep_alloc | refine keep_far ?_ GW304.out _ | refine keep_far ?_ GW308.out _ | refine keep_far ?_ GW321.out _) | exact HK.out)) (KeepBut.of_below hb g none) (.inl rfl))
         replace HB := Aside0.mk (below_step (by repeat (first | (with_reducible first | exact HB.out | apply below_alloc | apply pw_below_drewN | apply below_drew1 | refine below_set ?_ (IsS92.ge HI0.out) | refine below_set ?_ GE304.out | refine below_set ?_ GE308.out | refine below_set ?_ GE321.out) | exact HB.out)) hb)
         replace HI0 := Aside0.mk (IsS92.below (by repeat (first | (with_reducible first | exact HI0.out | apply IsS92.alloc | apply IsS92.drewN | apply IsS92.drew | apply IsS92.set_1 | refine IsS92.far ?_ NB0_304.out _ | refine IsS92.far ?_ NB0_308.out _ | refine IsS92.far ?_ NB0_321.out _) | exact HI0.out)) hb)
         (try clear hb); (try clear hb2); (try clear hk); (try clear hi); (try clear ho0)
         refine hK.out _ _ ⟨(blk_cell BK308.out 0).trans rfl, (blk_cell BK308.out 1).trans rfl, (blk_cell BK308.out 2).trans rfl⟩ (fun hHeld => ?_)
         clear hK K
         refine nS_ (some 27) ?_
         refine pT_ 6 (some 21) #[true, true, true, true, true, true, true, false, false, true, false, false] HT_ ?_
         refine pT_ 7 (some 28) #[true, true, true, true, true, true, true, true, false, true, false, false] HT_ ?_
         refine pT_ 8 (some 29) #[true, true, true, true, true, true, true, true, true, true, false, false] HT_ ?_
         exact norm_ (by simp only [putAll, Act.put, List.setIfInBounds_toArray, List.set_cons_zero, List.set_cons_succ]) (hCont (.slice Ao23 t311.length co23, v316, gb321) _ ⟨hHeld, (rM_ HO313), (rM_ HO317), (rM_ HO_309000), (bT_ BK304), (bT_ BK308), (bT_ BK321), GW321.out, GE321.out, NB0_321.out, NB321_0.out, NB304_321.out, NB321_304.out, NB308_321.out, NB321_308.out, (by repeat (first | (with_reducible first | exact HI0.out | apply IsS92.alloc | apply IsS92.drewN | apply IsS92.drew | apply IsS92.set_1 | refine IsS92.far ?_ NB0_304.out _ | refine IsS92.far ?_ NB0_308.out _ | refine IsS92.far ?_ NB0_321.out _) | exact HI0.out)), (by repeat (first | (with_reducible first | exact HK.out | apply KeepBut.set_ | apply keep_drewN | apply keep_drew | apply keep_alloc | refine keep_far ?_ GW304.out _ | refine keep_far ?_ GW308.out _ | refine keep_far ?_ GW321.out _) | exact HK.out)), (by repeat (first | (with_reducible first | exact HB.out | apply below_alloc | apply pw_below_drewN | apply below_drew1 | refine below_set ?_ (IsS92.ge HI0.out) | refine below_set ?_ GE304.out | refine below_set ?_ GE308.out | refine below_set ?_ GE321.out) | exact HB.out))⟩)
       rintro ⟨v312, v316, gb321⟩ w25 ⟨hS_, h0_, h1_, h2_, h3_, h4_, h5_, h6_, h7_, h8_, h9_, h10_, h11_, h12_, h13_, h14_, h15_, h16_⟩
       try dsimp only at h0_ h1_ h2_ h3_ h4_ h5_ h6_ h7_ h8_ h9_ h10_ h11_ h12_ h13_ h14_ h15_ h16_
       have HO313 := Aside0.mk h0_; have HO317 := Aside0.mk h1_; replace HO_309000 := Aside0.mk h2_; replace BK304 := Aside0.mk h3_; replace BK308 := Aside0.mk h4_; have BK321 := Aside0.mk h5_; have GW321 := Aside0.mk h6_; have GE321 := Aside0.mk h7_; have NB0_321 := Aside0.mk h8_; have NB321_0 := Aside0.mk h9_; have NB304_321 := Aside0.mk h10_; have NB321_304 := Aside0.mk h11_; have NB308_321 := Aside0.mk h12_; have NB321_308 := Aside0.mk h13_; replace HI0 := Aside0.mk h14_; replace HK := Aside0.mk h15_; replace HB := Aside0.mk h16_; clear h0_ h1_ h2_ h3_ h4_ h5_ h6_ h7_ h8_ h9_ h10_ h11_ h12_ h13_ h14_ h15_ h16_
       have hHeld : w25.cell? ⟨gb308, 0, none⟩ = some (.slice Ao19 x309000_1.length co19) ∧ w25.cell? ⟨gb308, 1, none⟩ = some (.int .i64 x309001_1) ∧ w25.cell? ⟨gb308, 2, none⟩ = some (.int .i64 x309002_1) := hS_
       obtain ⟨Ao26, co26, eo26⟩ := Kd.R_slice HO317.out
       (first | subst eo26 | (injection eo26 with f1_ f2_ f3_; have f4_ := f1_.symm; have f5_ := f3_.symm; clear f1_ f2_ f3_; subst f4_; subst f5_))
       refine norm_ (a' := ?_) ?_ ?_
       rotate_left
       ·simp only [putAll, Act.put, List.setIfInBounds_toArray, List.set_cons_zero, List.set_cons_succ]
        rfl
       refine one_ (i := 10) (N := none) #[true, true, true, true, true, true, true, true, true, true, true, false] rfl rfl (one_of HT_.out (by kernel_rfl)) (by decide) (fun K hK => ?_)
       have hs27 : w25.cell? ⟨gb321, 0, none⟩ = some (.slice none 0 0) := (blk_cell BK321.out 0).trans rfl
       have hfs27 := blk_frozen BK321.out 0; have hns27_0 := NB304_321.out; have hns27_1 := NB308_321.out; have hms27_0 := NB321_304.out; have hms27_1 := NB321_308.out
       have hs28 : w25.cell? ⟨gb321, 1, none⟩ = some (.int .i64 0) := (blk_cell BK321.out 1).trans rfl
       have hfs28 := blk_frozen BK321.out 1; have hns28_0 := NB304_321.out; have hns28_1 := NB308_321.out; have hms28_0 := NB321_304.out; have hms28_1 := NB321_308.out
       have hs29 : w25.cell? ⟨gb321, 2, none⟩ = some (.int .i64 0) := (blk_cell BK321.out 2).trans rfl
       have hfs29 := blk_frozen BK321.out 2; have hns29_0 := NB304_321.out; have hns29_1 := NB308_321.out; have hms29_0 := NB321_304.out; have hms29_1 := NB321_308.out
       refine skip_ (w1 := ?_) (by rfl) rfl ?_ ?_
       rotate_left
       ·go_simp
        rfl
       refine hK.out _ _ ⟨((cell_far (p := ⟨gb321, _, none⟩) NB308_321.out _).trans (((cell_far (p := ⟨gb321, _, none⟩) NB308_321.out _).trans (((cell_far (p := ⟨gb321, _, none⟩) NB308_321.out _).trans (hHeld.1)))))), ((cell_far (p := ⟨gb321, _, none⟩) NB308_321.out _).trans (((cell_far (p := ⟨gb321, _, none⟩) NB308_321.out _).trans (((cell_far (p := ⟨gb321, _, none⟩) NB308_321.out _).trans (hHeld.2.1)))))), ((cell_far (p := ⟨gb321, _, none⟩) NB308_321.out _).trans (((cell_far (p := ⟨gb321, _, none⟩) NB308_321.out _).trans (((cell_far (p := ⟨gb321, _, none⟩) NB308_321.out _).trans (hHeld.2.2))))))⟩ (fun hHeld => ?_)
       clear hK K
       refine pT_ 11 (some 9) #[true, true, true, true, true, true, true, true, true, true, true, true] HT_ ?_
       refine done_ (done_of HT_.out (by kernel_rfl)) ?_
       have hnb30 := NB321_304.out; have hnc30 := NB304_321.out; have hnb31 := NB321_308.out; have hnc31 := NB308_321.out; have hnb32 := NB321_0.out; have hnc32 := NB0_321.out
       have hcz33_0 : w25.cell? ⟨gb321, 0, none⟩ = some (.slice none 0 0) := (blk_cell BK321.out 0).trans rfl
       have hcz33_1 : w25.cell? ⟨gb321, 1, none⟩ = some (.int .i64 0) := (blk_cell BK321.out 1).trans rfl
       have hcz33_2 : w25.cell? ⟨gb321, 2, none⟩ = some (.int .i64 0) := (blk_cell BK321.out 2).trans rfl
       have hfz33_0 := blk_frozen BK321.out 0; have hfz33_1 := blk_frozen BK321.out 1; have hfz33_2 := blk_frozen BK321.out 2; have hnb34 := NB308_304.out; have hnc34 := NB304_308.out; have hnb35 := NB308_0.out; have hnc35 := NB0_308.out
       have hcz36_0 : w25.cell? ⟨gb308, 0, none⟩ = some (.slice Ao19 x309000_1.length co19) := (blk_cell BK308.out 0).trans rfl
       have hcz36_1 : w25.cell? ⟨gb308, 1, none⟩ = some (.int .i64 x309001_1) := (blk_cell BK308.out 1).trans rfl
       have hcz36_2 : w25.cell? ⟨gb308, 2, none⟩ = some (.int .i64 x309002_1) := (blk_cell BK308.out 2).trans rfl
       have hfz36_0 := blk_frozen BK308.out 0; have hfz36_1 := blk_frozen BK308.out 1; have hfz36_2 := blk_frozen BK308.out 2
       try go_wp2
       go_roundg k1
       case measure => have := HK1.out; omega
       case rel => exact ⟨(wrap64 (x7_1 + 1)), (t314), (t315), (t318), (t319), (.slice Ao26 t315.length co26), (by first | rfl | (simp; done) | (simp [*]; done)), H', ⟨by have := HK1.out; omega⟩, ⟨by (with_reducible repeat (first | apply Kd.R_alloc | apply Kd.R_drewN | apply Kd.R_drew)); exact Kd.R_mono (Kd.R_far (p := ⟨gb308, 2, none⟩) (Kd.R_far (p := ⟨gb308, 1, none⟩) (Kd.R_far (p := ⟨gb308, 0, none⟩) (Kd.R_far (p := ⟨gb321, 2, none⟩) (Kd.R_far (p := ⟨gb321, 1, none⟩) (Kd.R_far (p := ⟨gb321, 0, none⟩) (Kd.R_types (Kd.R_types HO317.out BK321.out (by decide)) BK308.out (by decide)) (fun _ hk => hk.1.2) (.slice Ao26 t315.length co26)) (fun _ hk => hk.1.2) (.int .i64 t318)) (fun _ hk => hk.1.2) (.int .i64 t319)) (fun _ hk => hk.2) (.slice Ao26 t315.length co26)) (fun _ hk => hk.2) (.int .i64 t318)) (fun _ hk => hk.2) (.int .i64 t319)) (fun _ hk => trivial)⟩, ⟨by (with_reducible repeat (first | refine blk_drewN ?_ _ | refine blk_drew ?_ | refine blk_alloc ?_ _)); refine blk_far ?_ NB304_308.out _; (with_reducible repeat (first | refine blk_drewN ?_ _ | refine blk_drew ?_ | refine blk_alloc ?_ _)); refine blk_far ?_ NB304_308.out _; (with_reducible repeat (first | refine blk_drewN ?_ _ | refine blk_drew ?_ | refine blk_alloc ?_ _)); refine blk_far ?_ NB304_308.out _; (with_reducible repeat (first | refine blk_drewN ?_ _ | refine blk_drew ?_ | refine blk_alloc ?_ _)); refine blk_far ?_ NB304_321.out _; (with_reducible repeat (first | refine blk_drewN ?_ _ | refine blk_drew ?_ | refine blk_alloc ?_ _)); refine blk_far ?_ NB304_321.out _; (with_reducible repeat (first | refine blk_drewN ?_ _ | refine blk_drew ?_ | refine blk_alloc ?_ _)); refine blk_far ?_ NB304_321.out _; exact bT_ BK304⟩, ⟨by (with_reducible repeat (first | refine blk_drewN ?_ _ | refine blk_drew ?_ | refine blk_alloc ?_ _)); refine blk_put (cs := #[.slice Ao26 t315.length co26, .int .i64 t318, .int .i64 x309002_1]) ?_ 2 _ rfl; (with_reducible repeat (first | refine blk_drewN ?_ _ | refine blk_drew ?_ | refine blk_alloc ?_ _)); refine blk_put (cs := #[.slice Ao26 t315.length co26, .int .i64 x309001_1, .int .i64 x309002_1]) ?_ 1 _ rfl; (with_reducible repeat (first | refine blk_drewN ?_ _ | refine blk_drew ?_ | refine blk_alloc ?_ _)); refine blk_put (cs := #[.slice Ao19 x309000_1.length co19, .int .i64 x309001_1, .int .i64 x309002_1]) ?_ 0 _ rfl; (with_reducible repeat (first | refine blk_drewN ?_ _ | refine blk_drew ?_ | refine blk_alloc ?_ _)); refine blk_far ?_ NB308_321.out _; (with_reducible repeat (first | refine blk_drewN ?_ _ | refine blk_drew ?_ | refine blk_alloc ?_ _)); refine blk_far ?_ NB308_321.out _; (with_reducible repeat (first | refine blk_drewN ?_ _ | refine blk_drew ?_ | refine blk_alloc ?_ _)); refine blk_far ?_ NB308_321.out _; exact bT_ BK308⟩, ⟨by repeat (first | (with_reducible first | exact HI0.out | apply IsS92.alloc | apply IsS92.drewN | apply IsS92.drew | apply IsS92.set_1 | refine IsS92.far ?_ NB0_304.out _ | refine IsS92.far ?_ NB0_308.out _ | refine IsS92.far ?_ NB0_321.out _) | exact HI0.out)⟩, ⟨by repeat (first | (with_reducible first | exact HK.out | apply KeepBut.set_ | apply keep_drewN | apply keep_drew | apply keep_alloc | refine keep_far ?_ GW304.out _ | refine keep_far ?_ GW308.out _ | refine keep_far ?_ GW321.out _) | exact HK.out)⟩, ⟨by repeat (first | (with_reducible first | exact HB.out | apply below_alloc | apply pw_below_drewN | apply below_drew1 | refine below_set ?_ (IsS92.ge HI0.out) | refine below_set ?_ GE304.out | refine below_set ?_ GE308.out | refine below_set ?_ GE321.out) | exact HB.out)⟩⟩
      ·replace c18 := Bool.eq_false_iff.mpr c18
       subst c18
       have H1 : (spec_l13DrawBook.l0 k1 l1 t309 (wrap64 (x7_1 + 1)) s0_0 t314 x309000_1 x309001_1 x309002_1) = some (r1, r2, r3, r4) := by rw [if_neg (show ¬ (false = true) by decide)] at H; exact H
       clear H; have H := H1; clear H1; have H' := Aside0.mk H; clear H
       obtain ⟨Ao37, co37, eo37⟩ := Kd.R_slice HO_309000.out
       subst eo37
       try go_wp2
       replace HO_309000 := Aside0.mk (Kd.R_drew HO_309000.out)
       replace BK304 := Aside0.mk (blk_drew BK304.out)
       replace BK308 := Aside0.mk (blk_drew BK308.out)
       replace HI0 := Aside0.mk (IsS92.drew HI0.out)
       replace HK := Aside0.mk (keep_drew HK.out)
       replace HB := Aside0.mk (below_drew1 HB.out)
       refine start_ (n := 12) (S := fun w' => w'.cell? ⟨gb308, 0, none⟩ = some (.slice Ao37 x309000_1.length co37) ∧ w'.cell? ⟨gb308, 1, none⟩ = some (.int .i64 x309001_1) ∧ w'.cell? ⟨gb308, 2, none⟩ = some (.int .i64 x309002_1)) (ds := []) #[false, false, false, false, false, false, false, false, false, false, false, false] (by kernel_rfl) rfl rfl ⟨(blk_cell BK308.out 0).trans rfl, (blk_cell BK308.out 1).trans rfl, (blk_cell BK308.out 2).trans rfl⟩ (fun hHeld => ?_); refine with_tabW spec_l13DrawBook.tab6 spec_l13DrawBook.bits6 (fun HT_ HW_ => ?_)
       generalize wr.drew = w38 at HO_309000 BK304 BK308 HI0 HK HB hHeld ⊢
       refine pT_ 0 (some 22) #[true, false, false, false, false, false, false, false, false, false, false, false] HT_ ?_
       refine pT_ 2 (some 24) #[true, false, true, false, false, false, false, false, false, false, false, false] HT_ ?_
       refine pT_ 3 (some 25) #[true, false, true, true, false, false, false, false, false, false, false, false] HT_ ?_
       refine tT_ 1 (some 23) #[true, true, true, true, false, false, false, false, false, false, false, false] HT_ HW_ hHeld ?_ (hy := by rintro w' ⟨s0, s1, s2⟩; go_simp; with_reducible rfl)
       refine join_ (σ := Value × Value × Nat) 2 #[true, true, true, true, true, true, true, true, true, true, false, false] (fun s_ => [(26, s_.1), (27, .tuple #[.agg #[s_.2.1, .int .i64 t318, .int .i64 t319], .bool false]), (8, .pointer (some ⟨s_.2.2, 0, none⟩)), (21, .tuple #[.agg #[s_.2.1, .int .i64 t318, .int .i64 t319], .bool false]), (28, .agg #[s_.2.1, .int .i64 t318, .int .i64 t319]), (29, .bool false)]) (fun s_ w' => (w'.cell? ⟨gb308, 0, none⟩ = some (.slice Ao37 x309000_1.length co37) ∧ w'.cell? ⟨gb308, 1, none⟩ = some (.int .i64 x309001_1) ∧ w'.cell? ⟨gb308, 2, none⟩ = some (.int .i64 x309002_1)) ∧ (Kd.R (Kd.int .i64) 2 w' w.heap.size (fun k_ => some k_ ≠ (s_.2.1 : Value).ownBlock ∧ some k_ ≠ (.slice Ao37 x309000_1.length co37 : Value).ownBlock) s_.1 t311) ∧ (Kd.R (Kd.int .i64) 2 w' w.heap.size (fun k_ => some k_ ≠ (s_.1 : Value).ownBlock ∧ some k_ ≠ (.slice Ao37 x309000_1.length co37 : Value).ownBlock) s_.2.1 t315) ∧ (Kd.R (Kd.int .i64) 2 w' w.heap.size (fun k_ => some k_ ≠ (s_.1 : Value).ownBlock ∧ some k_ ≠ (s_.2.1 : Value).ownBlock) (.slice Ao37 x309000_1.length co37) x309000_1) ∧ (w'.heap[gb304]? = some (.cells #[.slice none 0 0, .int .i64 0, .int .i64 0] 26 (0, 0))) ∧ (w'.heap[gb308]? = some (.cells #[.slice Ao37 x309000_1.length co37, .int .i64 x309001_1, .int .i64 x309002_1] 26 (0, 0))) ∧ (w'.heap[s_.2.2]? = some (.cells #[.slice none 0 0, .int .i64 0, .int .i64 0] 26 (0, 0))) ∧ (w.heap.size ≤ s_.2.2) ∧ (w0.heap.size ≤ s_.2.2) ∧ (g ≠ s_.2.2) ∧ (s_.2.2 ≠ g) ∧ (gb304 ≠ s_.2.2) ∧ (s_.2.2 ≠ gb304) ∧ (gb308 ≠ s_.2.2) ∧ (s_.2.2 ≠ gb308) ∧ (IsS92 w0 w' g s0_0 t314) ∧ (KeepBut w w' g none) ∧ (Below w0.heap.size w0 w')) ?_ ?_
       rotate_left
       ·intro hCont
        refine two_ (i := 4) (j := 9) (Ni := some 26) (Nj := some 8) #[true, true, true, true, true, false, false, false, false, false, false, false] #[true, true, true, true, false, false, false, false, false, true, false, false] rfl rfl rfl rfl (two_of HT_.out (by kernel_rfl)) (by decide) (by decide) (fun K hK => ?_) (fun K hK => ?_)
        ·skip
         refine goes_ Try.func52 (by kernel_rfl) rfl #[.pointer (some ⟨g, 0, none⟩), .slice A1 l1.length c1] (by rfl) rfl rfl (by (try simp only [List.map_toArray, List.map_cons, List.map_nil]); first | done | rfl | (simp only [List.length_drop, List.length_take]; rfl)) ?_
         with_reducible refine (spec_l13DrawRain.calls k1 g s0_0 x1001_1 _ _ l1 t311 t314 w0 _ ?side1 ?side2 ?side3 ?side4 ?side5 A16.out).mono ?_
         (case side1 => repeat (first | (with_reducible first | exact HI0.out | apply IsS92.alloc | apply IsS92.drewN | apply IsS92.drew | apply IsS92.set_1 | refine IsS92.far ?_ NB0_304.out _ | refine IsS92.far ?_ NB0_308.out _) | exact HI0.out))
         (case side2 => repeat (first | (with_reducible first | exact HB.out | apply below_alloc | apply pw_below_drewN | apply below_drew1 | refine below_set ?_ (IsS92.ge HI0.out) | refine below_set ?_ GE304.out | refine below_set ?_ GE308.out) | exact HB.out))
         (case side3 => exact Kd.C_keep 0 HR1.out (by repeat (first | (with_reducible first | exact HK.out | apply KeepBut.set_ | apply keep_drewN | apply keep_drew | apply keep_alloc | refine keep_far ?_ GW304.out _ | refine keep_far ?_ GW308.out _) | exact HK.out)) hf1)
         (case side4 => exact HC1.out)
         (case side5 => exact hf1)
         rintro e w39 ⟨v312, rfl, ho0, hi, hb, hk⟩
         refine ⟨_, rfl, ?_⟩
         replace BK304 := Aside0.mk (KeepBut.blk hk (g' := gb304) (o := .cells #[.slice none 0 0, .int .i64 0, .int .i64 0] 26 (0, 0)) (bT_ BK304) NB304_0.out (by simp))
         replace BK308 := Aside0.mk (KeepBut.blk hk (g' := gb308) (o := .cells #[.slice Ao37 x309000_1.length co37, .int .i64 x309001_1, .int .i64 x309002_1] 26 (0, 0)) (bT_ BK308) NB308_0.out (by simp))
         have HO313 := Aside0.mk (Kd.R_lower (rN_ ho0 HO_309000) (keep_size (w := w) (g := g) (row := none) (by repeat (first | (with_reducible first | exact HK.out | apply KeepBut.set_ | apply keep_drewN | apply keep_drew | apply keep_alloc | refine keep_far ?_ GW304.out _ | refine keep_far ?_ GW308.out _) | exact HK.out))))
         replace HO_309000 := Aside0.mk (Kd.R_mono (Kd.R_told (Kd.R_oldK (IsS92.apart (show IsS92 w0 _ g s0_0 x1001_1 from by repeat (first | (with_reducible first | exact HI0.out | apply IsS92.alloc | apply IsS92.drewN | apply IsS92.drew | apply IsS92.set_1 | refine IsS92.far ?_ NB0_304.out _ | refine IsS92.far ?_ NB0_308.out _) | exact HI0.out)) (rT_ HO_309000) (by decide)) hk) (Kd.R_base ho0)) (fun _ h_ => h_.1))
         replace HK := Aside0.mk (KeepBut.trans (by repeat (first | (with_reducible first | exact HK.out | apply KeepBut.set_ | apply keep_drewN | apply keep_drew | apply keep_alloc | refine keep_far ?_ GW304.out _ | refine keep_far ?_ GW308.out _) | exact HK.out)) hk (.inl rfl))
         replace HB := Aside0.mk (hb)
         replace HI0 := Aside0.mk (hi)
         (try clear hb); (try clear hb2); (try clear hk); (try clear hi); (try clear ho0)
         obtain ⟨Ao40, co40, eo40⟩ := Kd.R_slice HO313.out
         (first | subst eo40 | (injection eo40 with f1_ f2_ f3_; have f4_ := f1_.symm; have f5_ := f3_.symm; clear f1_ f2_ f3_; subst f4_; subst f5_))
         refine hK.out _ _ ⟨(blk_cell BK308.out 0).trans rfl, (blk_cell BK308.out 1).trans rfl, (blk_cell BK308.out 2).trans rfl⟩ (fun hHeld => ?_)
         clear hK K
         refine nS_ (some 26) ?_
         refine two_ (i := 5) (j := 9) (Ni := some 27) (Nj := some 8) #[true, true, true, true, true, true, false, false, false, false, false, false] #[true, true, true, true, true, false, false, false, false, true, false, false] rfl rfl rfl rfl (two_of HT_.out (by kernel_rfl)) (by decide) (by decide) (fun K hK => ?_) (fun K hK => ?_)
         ·skip
          refine goes_ Try.func10 (by kernel_rfl) rfl #[.slice A1 l1.length c1, .agg #[.slice Ao37 x309000_1.length co37, .int .i64 x309001_1, .int .i64 x309002_1], .slice Ao40 t311.length co40] (by rfl) rfl rfl (by (try simp only [List.map_toArray, List.map_cons, List.map_nil]); first | done | rfl | (simp only [List.length_drop, List.length_take]; rfl)) ?_
          with_reducible refine (spec_FlowStep.calls k1 _ _ l1 _ _ x309000_1 x309001_1 x309002_1 _ _ t311 t315 t318 t319 false _ ?side1 ?side2 ?side3 ?side4 ?side5 ?side6 A17.out).mono ?_
          (case side1 => exact Kd.C_keep 0 HR1.out (by repeat (first | (with_reducible first | exact HK.out | apply KeepBut.set_ | apply keep_drewN | apply keep_drew | apply keep_alloc | refine keep_far ?_ GW304.out _ | refine keep_far ?_ GW308.out _) | exact HK.out)) hf1)
          (case side2 => exact HC1.out)
          (case side3 => exact rD_ HO_309000)
          (case side4 => exact (Kd.R_reads' HO_309000.out).2.1)
          (case side5 => exact rD_ HO313)
          (case side6 => exact (Kd.R_reads' HO313.out).2.1)
          rintro e w41 ⟨v316, rfl, ho0, hb⟩
          refine ⟨_, rfl, ?_⟩
          have HO317 := Aside0.mk (Kd.R_lower (rN_ (rN_ ho0 HO_309000) HO313) (keep_size (w := w) (g := g) (row := none) (by repeat (first | (with_reducible first | exact HK.out | apply KeepBut.set_ | apply keep_drewN | apply keep_drew | apply keep_alloc | refine keep_far ?_ GW304.out _ | refine keep_far ?_ GW308.out _) | exact HK.out))))
          replace HO_309000 := rE_ HO_309000 ho0 hb; replace HO313 := rE_ HO313 ho0 hb; replace BK304 := bB_ BK304 hb; replace BK308 := bB_ BK308 hb
          replace HK := Aside0.mk (KeepBut.trans (by repeat (first | (with_reducible first | exact HK.out | apply KeepBut.set_ | apply keep_drewN | apply keep_drew | apply keep_alloc | refine keep_far ?_ GW304.out _ | refine keep_far ?_ GW308.out _) | exact HK.out)) (KeepBut.of_below hb g none) (.inl rfl))
          replace HB := Aside0.mk (below_step (by repeat (first | (with_reducible first | exact HB.out | apply below_alloc | apply pw_below_drewN | apply below_drew1 | refine below_set ?_ (IsS92.ge HI0.out) | refine below_set ?_ GE304.out | refine below_set ?_ GE308.out) | exact HB.out)) hb)
          replace HI0 := Aside0.mk (IsS92.below (by repeat (first | (with_reducible first | exact HI0.out | apply IsS92.alloc | apply IsS92.drewN | apply IsS92.drew | apply IsS92.set_1 | refine IsS92.far ?_ NB0_304.out _ | refine IsS92.far ?_ NB0_308.out _) | exact HI0.out)) hb)
          (try clear hb); (try clear hb2); (try clear hk); (try clear hi); (try clear ho0)
          refine hK.out _ _ ⟨(blk_cell BK308.out 0).trans rfl, (blk_cell BK308.out 1).trans rfl, (blk_cell BK308.out 2).trans rfl⟩ (fun hHeld => ?_)
          clear hK K
          refine nS_ (some 27) ?_
          refine pT_ 6 (some 21) #[true, true, true, true, true, true, true, false, false, false, false, false] HT_ ?_
          refine pT_ 7 (some 28) #[true, true, true, true, true, true, true, true, false, false, false, false] HT_ ?_
          refine pT_ 8 (some 29) #[true, true, true, true, true, true, true, true, true, false, false, false] HT_ ?_
          refine one_ (i := 9) (N := some 8) #[true, true, true, true, true, true, true, true, true, true, false, false] rfl rfl (one_of HT_.out (by kernel_rfl)) (by decide) (fun K hK => ?_)
          refine box_step ?hg (N := 8) ?hd (cs := #[.slice none 0 0, .int .i64 0, .int .i64 0]) (t := 26) ?hr ?_; (case hd => rfl); (case hg => rfl); (case hr => first | (go_simp; done) | (go_simp; rfl))
          intro gb321 hg w42 hbox hb
          replace HO_309000 := rB_ HO_309000 hb; replace HO313 := rB_ HO313 hb; replace HO317 := rB_ HO317 hb
          replace HB := Aside0.mk (below_step (by repeat (first | (with_reducible first | exact HB.out | apply below_alloc | apply pw_below_drewN | apply below_drew1 | refine below_set ?_ (IsS92.ge HI0.out) | refine below_set ?_ GE304.out | refine below_set ?_ GE308.out) | exact HB.out)) hb)
          have BK321 := Aside0.mk (hbox)
          have GW321 := Aside0.mk ((by rw [hg]; exact (keep_size (w := w) (g := g) (row := none) (by repeat (first | (with_reducible first | exact HK.out | apply KeepBut.set_ | apply keep_drewN | apply keep_drew | apply keep_alloc | refine keep_far ?_ GW304.out _ | refine keep_far ?_ GW308.out _) | exact HK.out))) : w.heap.size ≤ gb321))
          have GE321 := Aside0.mk ((Nat.le_trans HW0.out (by rw [hg]; exact (keep_size (w := w) (g := g) (row := none) (by repeat (first | (with_reducible first | exact HK.out | apply KeepBut.set_ | apply keep_drewN | apply keep_drew | apply keep_alloc | refine keep_far ?_ GW304.out _ | refine keep_far ?_ GW308.out _) | exact HK.out))) : w.heap.size ≤ gb321) : w0.heap.size ≤ gb321))
          replace HK := Aside0.mk (KeepBut.trans (by repeat (first | (with_reducible first | exact HK.out | apply KeepBut.set_ | apply keep_drewN | apply keep_drew | apply keep_alloc | refine keep_far ?_ GW304.out _ | refine keep_far ?_ GW308.out _) | exact HK.out)) (KeepBut.of_below hb g none) (.inl rfl))
          have NB304_321 := nL_ BK304 hg; have NB321_304 := nG_ BK304 hg; replace BK304 := bB_ BK304 hb; have NB308_321 := nL_ BK308 hg; have NB321_308 := nG_ BK308 hg; replace BK308 := bB_ BK308 hb
          have NB0_321 := Aside0.mk ((by rw [hg]; exact Nat.ne_of_lt (IsS92.lt (show IsS92 w0 _ g s0_0 t314 from by repeat (first | (with_reducible first | exact HI0.out | apply IsS92.alloc | apply IsS92.drewN | apply IsS92.drew | apply IsS92.set_1 | refine IsS92.far ?_ NB0_304.out _ | refine IsS92.far ?_ NB0_308.out _) | exact HI0.out))) : g ≠ gb321))
          have NB321_0 := Aside0.mk ((by rw [hg]; exact Nat.ne_of_gt (IsS92.lt (show IsS92 w0 _ g s0_0 t314 from by repeat (first | (with_reducible first | exact HI0.out | apply IsS92.alloc | apply IsS92.drewN | apply IsS92.drew | apply IsS92.set_1 | refine IsS92.far ?_ NB0_304.out _ | refine IsS92.far ?_ NB0_308.out _) | exact HI0.out))) : gb321 ≠ g))
          replace HI0 := Aside0.mk (IsS92.below (by repeat (first | (with_reducible first | exact HI0.out | apply IsS92.alloc | apply IsS92.drewN | apply IsS92.drew | apply IsS92.set_1 | refine IsS92.far ?_ NB0_304.out _ | refine IsS92.far ?_ NB0_308.out _) | exact HI0.out)) hb)
          clear hb hbox hg
          refine hK.out _ _ ⟨(blk_cell BK308.out 0).trans rfl, (blk_cell BK308.out 1).trans rfl, (blk_cell BK308.out 2).trans rfl⟩ (fun hHeld => ?_)
          clear hK K
          refine nS_ (some 8) ?_
          exact norm_ (by simp only [putAll, Act.put, List.setIfInBounds_toArray, List.set_cons_zero, List.set_cons_succ]) (hCont (.slice Ao40 t311.length co40, v316, gb321) _ ⟨hHeld, (rM_ HO313), (rM_ HO317), (rM_ HO_309000), (bT_ BK304), (bT_ BK308), (bT_ BK321), GW321.out, GE321.out, NB0_321.out, NB321_0.out, NB304_321.out, NB321_304.out, NB308_321.out, NB321_308.out, (by repeat (first | (with_reducible first | exact HI0.out | apply IsS92.alloc | apply IsS92.drewN | apply IsS92.drew | apply IsS92.set_1 | refine IsS92.far ?_ NB0_304.out _ | refine IsS92.far ?_ NB0_308.out _ | refine IsS92.far ?_ NB0_321.out _) | exact HI0.out)), (by repeat (first | (with_reducible first | exact HK.out | apply KeepBut.set_ | apply keep_drewN | apply keep_drew | apply keep_alloc | refine keep_far ?_ GW304.out _ | refine keep_far ?_ GW308.out _ | refine keep_far ?_ GW321.out _) | exact HK.out)), (by repeat (first | (with_reducible first | exact HB.out | apply below_alloc | apply pw_below_drewN | apply below_drew1 | refine below_set ?_ (IsS92.ge HI0.out) | refine below_set ?_ GE304.out | refine below_set ?_ GE308.out | refine below_set ?_ GE321.out) | exact HB.out))⟩)
         ·skip
          refine box_step ?hg (N := 8) ?hd (cs := #[.slice none 0 0, .int .i64 0, .int .i64 0]) (t := 26) ?hr ?_; (case hd => rfl); (case hg => rfl); (case hr => first | (go_simp; done) | (go_simp; rfl))
          intro gb321 hg w40 hbox hb
          replace HO_309000 := rB_ HO_309000 hb; replace HO313 := rB_ HO313 hb
          replace HB := Aside0.mk (below_step (by repeat (first | (with_reducible first | exact HB.out | apply below_alloc | apply pw_below_drewN | apply below_drew1 | refine below_set ?_ (IsS92.ge HI0.out) | refine below_set ?_ GE304.out | refine below_set ?_ GE308.out) | exact HB.out)) hb)
          have BK321 := Aside0.mk (hbox)
          have GW321 := Aside0.mk ((by rw [hg]; exact (keep_size (w := w) (g := g) (row := none) (by repeat (first | (with_reducible first | exact HK.out | apply KeepBut.set_ | apply keep_drewN | apply keep_drew | apply keep_alloc | refine keep_far ?_ GW304.out _ | refine keep_far ?_ GW308.out _) | exact HK.out))) : w.heap.size ≤ gb321))
          have GE321 := Aside0.mk ((Nat.le_trans HW0.out (by rw [hg]; exact (keep_size (w := w) (g := g) (row := none) (by repeat (first | (with_reducible first | exact HK.out | apply KeepBut.set_ | apply keep_drewN | apply keep_drew | apply keep_alloc | refine keep_far ?_ GW304.out _ | refine keep_far ?_ GW308.out _) | exact HK.out))) : w.heap.size ≤ gb321) : w0.heap.size ≤ gb321))
          replace HK := Aside0.mk (KeepBut.trans (by repeat (first | (with_reducible first | exact HK.out | apply KeepBut.set_ | apply keep_drewN | apply keep_drew | apply keep_alloc | refine keep_far ?_ GW304.out _ | refine keep_far ?_ GW308.out _) | exact HK.out)) (KeepBut.of_below hb g none) (.inl rfl))
          have NB304_321 := nL_ BK304 hg; have NB321_304 := nG_ BK304 hg; replace BK304 := bB_ BK304 hb; have NB308_321 := nL_ BK308 hg; have NB321_308 := nG_ BK308 hg; replace BK308 := bB_ BK308 hb
          have NB0_321 := Aside0.mk ((by rw [hg]; exact Nat.ne_of_lt (IsS92.lt (show IsS92 w0 _ g s0_0 t314 from by repeat (first | (with_reducible first | exact HI0.out | apply IsS92.alloc | apply IsS92.drewN | apply IsS92.drew | apply IsS92.set_1 | refine IsS92.far ?_ NB0_304.out _ | refine IsS92.far ?_ NB0_308.out _) | exact HI0.out))) : g ≠ gb321))
          have NB321_0 := Aside0.mk ((by rw [hg]; exact Nat.ne_of_gt (IsS92.lt (show IsS92 w0 _ g s0_0 t314 from by repeat (first | (with_reducible first | exact HI0.out | apply IsS92.alloc | apply IsS92.drewN | apply IsS92.drew | apply IsS92.set_1 | refine IsS92.far ?_ NB0_304.out _ | refine IsS92.far ?_ NB0_308.out _) | exact HI0.out))) : gb321 ≠ g))
          replace HI0 := Aside0.mk (IsS92.below (by repeat (first | (with_reducible first | exact HI0.out | apply IsS92.alloc | apply IsS92.drewN | apply IsS92.drew | apply IsS92.set_1 | refine IsS92.far ?_ NB0_304.out _ | refine IsS92.far ?_ NB0_308.out _) | exact HI0.out)) hb)
          clear hb hbox hg
          obtain ⟨Ao41, co41, eo41⟩ := Kd.R_slice HO313.out
          (first | subst eo41 | (injection eo41 with f1_ f2_ f3_; have f4_ := f1_.symm; have f5_ := f3_.symm; clear f1_ f2_ f3_; subst f4_; subst f5_))
          refine hK.out _ _ ⟨(blk_cell BK308.out 0).trans rfl, (blk_cell BK308.out 1).trans rfl, (blk_cell BK308.out 2).trans rfl⟩ (fun hHeld => ?_)
          clear hK K
          refine nS_ (some 8) ?_
          refine one_ (i := 5) (N := some 27) #[true, true, true, true, true, true, false, false, false, true, false, false] rfl rfl (one_of HT_.out (by kernel_rfl)) (by decide) (fun K hK => ?_)
          refine goes_ Try.func10 (by kernel_rfl) rfl #[.slice A1 l1.length c1, .agg #[.slice Ao37 x309000_1.length co37, .int .i64 x309001_1, .int .i64 x309002_1], .slice Ao41 t311.length co41] (by rfl) rfl rfl (by (try simp only [List.map_toArray, List.map_cons, List.map_nil]); first | done | rfl | (simp only [List.length_drop, List.length_take]; rfl)) ?_
          with_reducible refine (spec_FlowStep.calls k1 _ _ l1 _ _ x309000_1 x309001_1 x309002_1 _ _ t311 t315 t318 t319 false _ ?side1 ?side2 ?side3 ?side4 ?side5 ?side6 A17.out).mono ?_
          (case side1 => exact Kd.C_keep 0 HR1.out (by repeat (first | (with_reducible first | exact HK.out | apply KeepBut.set_ | apply keep_drewN | apply keep_drew | apply keep_alloc | refine keep_far ?_ GW304.out _ | refine keep_far ?_ GW308.out _ | refine keep_far ?_ GW321.out _) | exact HK.out)) hf1)
          (case side2 => exact HC1.out)
          (case side3 => exact rD_ HO_309000)
          (case side4 => exact (Kd.R_reads' HO_309000.out).2.1)
          (case side5 => exact rD_ HO313)
          (case side6 => exact (Kd.R_reads' HO313.out).2.1)
          rintro e w42 ⟨v316, rfl, ho0, hb⟩
          refine ⟨_, rfl, ?_⟩
          have HO317 := Aside0.mk (Kd.R_lower (rN_ (rN_ ho0 HO_309000) HO313) (keep_size (w := w) (g := g) (row := none) (by repeat (first | (with_reducible first | exact HK.out | apply KeepBut.set_ | apply keep_drewN | apply keep_drew | apply keep_alloc | refine keep_far ?_ GW304.out _ | refine keep_far ?_ GW308.out _ | refine keep_far ?_ GW321.out _) | exact HK.out))))
          replace HO_309000 := rE_ HO_309000 ho0 hb; replace HO313 := rE_ HO313 ho0 hb; replace BK304 := bB_ BK304 hb; replace BK308 := bB_ BK308 hb; replace BK321 := bB_ BK321 hb
          replace HK := Aside0.mk (KeepBut.trans (by repeat (first | (with_reducible first | exact HK.out | apply KeepBut.set_ | apply keep_drewN | apply keep_drew | apply keep_alloc | refine keep_far ?_ GW304.out _ | refine keep_far ?_ GW308.out _ | refine keep_far ?_ GW321.out _) | exact HK.out)) (KeepBut.of_below hb g none) (.inl rfl))
          replace HB := Aside0.mk (below_step (by repeat (first | (with_reducible first | exact HB.out | apply below_alloc | apply pw_below_drewN | apply below_drew1 | refine below_set ?_ (IsS92.ge HI0.out) | refine below_set ?_ GE304.out | refine below_set ?_ GE308.out | refine below_set ?_ GE321.out) | exact HB.out)) hb)
          replace HI0 := Aside0.mk (IsS92.below (by repeat (first | (with_reducible first | exact HI0.out | apply IsS92.alloc | apply IsS92.drewN | apply IsS92.drew | apply IsS92.set_1 | refine IsS92.far ?_ NB0_304.out _ | refine IsS92.far ?_ NB0_308.out _ | refine IsS92.far ?_ NB0_321.out _) | exact HI0.out)) hb)
          (try clear hb); (try clear hb2); (try clear hk); (try clear hi); (try clear ho0)
          refine hK.out _ _ ⟨(blk_cell BK308.out 0).trans rfl, (blk_cell BK308.out 1).trans rfl, (blk_cell BK308.out 2).trans rfl⟩ (fun hHeld => ?_)
          clear hK K
          refine nS_ (some 27) ?_
          refine pT_ 6 (some 21) #[true, true, true, true, true, true, true, false, false, true, false, false] HT_ ?_
          refine pT_ 7 (some 28) #[true, true, true, true, true, true, true, true, false, true, false, false] HT_ ?_
          refine pT_ 8 (some 29) #[true, true, true, true, true, true, true, true, true, true, false, false] HT_ ?_
          exact norm_ (by simp only [putAll, Act.put, List.setIfInBounds_toArray, List.set_cons_zero, List.set_cons_succ]) (hCont (.slice Ao41 t311.length co41, v316, gb321) _ ⟨hHeld, (rM_ HO313), (rM_ HO317), (rM_ HO_309000), (bT_ BK304), (bT_ BK308), (bT_ BK321), GW321.out, GE321.out, NB0_321.out, NB321_0.out, NB304_321.out, NB321_304.out, NB308_321.out, NB321_308.out, (by repeat (first | (with_reducible first | exact HI0.out | apply IsS92.alloc | apply IsS92.drewN | apply IsS92.drew | apply IsS92.set_1 | refine IsS92.far ?_ NB0_304.out _ | refine IsS92.far ?_ NB0_308.out _ | refine IsS92.far ?_ NB0_321.out _) | exact HI0.out)), (by repeat (first | (with_reducible first | exact HK.out | apply KeepBut.set_ | apply keep_drewN | apply keep_drew | apply keep_alloc | refine keep_far ?_ GW304.out _ | refine keep_far ?_ GW308.out _ | refine keep_far ?_ GW321.out _) | exact HK.out)), (by repeat (first | (with_reducible first | exact HB.out | apply below_alloc | apply pw_below_drewN | apply below_drew1 | refine below_set ?_ (IsS92.ge HI0.out) | refine below_set ?_ GE304.out | refine below_set ?_ GE308.out | refine below_set ?_ GE321.out) | exact HB.out))⟩)
        ·skip
         refine box_step ?hg (N := 8) ?hd (cs := #[.slice none 0 0, .int .i64 0, .int .i64 0]) (t := 26) ?hr ?_; (case hd => rfl); (case hg => rfl); (case hr => first | (go_simp; done) | (go_simp; rfl))
         intro gb321 hg w39 hbox hb
         replace HO_309000 := rB_ HO_309000 hb
         replace HB := Aside0.mk (below_step (by repeat (first | (with_reducible first | exact HB.out | apply below_alloc | apply pw_below_drewN | apply below_drew1 | refine below_set ?_ (IsS92.ge HI0.out) | refine below_set ?_ GE304.out | refine below_set ?_ GE308.out) | exact HB.out)) hb)
         have BK321 := Aside0.mk (hbox)
         have GW321 := Aside0.mk ((by rw [hg]; exact (keep_size (w := w) (g := g) (row := none) (by repeat (first | (with_reducible first | exact HK.out | apply KeepBut.set_ | apply keep_drewN | apply keep_drew | apply keep_alloc | refine keep_far ?_ GW304.out _ | refine keep_far ?_ GW308.out _) | exact HK.out))) : w.heap.size ≤ gb321))
         have GE321 := Aside0.mk ((Nat.le_trans HW0.out (by rw [hg]; exact (keep_size (w := w) (g := g) (row := none) (by repeat (first | (with_reducible first | exact HK.out | apply KeepBut.set_ | apply keep_drewN | apply keep_drew | apply keep_alloc | refine keep_far ?_ GW304.out _ | refine keep_far ?_ GW308.out _) | exact HK.out))) : w.heap.size ≤ gb321) : w0.heap.size ≤ gb321))
         replace HK := Aside0.mk (KeepBut.trans (by repeat (first | (with_reducible first | exact HK.out | apply KeepBut.set_ | apply keep_drewN | apply keep_drew | apply keep_alloc | refine keep_far ?_ GW304.out _ | refine keep_far ?_ GW308.out _) | exact HK.out)) (KeepBut.of_below hb g none) (.inl rfl))
         have NB304_321 := nL_ BK304 hg; have NB321_304 := nG_ BK304 hg; replace BK304 := bB_ BK304 hb; have NB308_321 := nL_ BK308 hg; have NB321_308 := nG_ BK308 hg; replace BK308 := bB_ BK308 hb
         have NB0_321 := Aside0.mk ((by rw [hg]; exact Nat.ne_of_lt (IsS92.lt (show IsS92 w0 _ g s0_0 x1001_1 from by repeat (first | (with_reducible first | exact HI0.out | apply IsS92.alloc | apply IsS92.drewN | apply IsS92.drew | apply IsS92.set_1 | refine IsS92.far ?_ NB0_304.out _ | refine IsS92.far ?_ NB0_308.out _) | exact HI0.out))) : g ≠ gb321))
         have NB321_0 := Aside0.mk ((by rw [hg]; exact Nat.ne_of_gt (IsS92.lt (show IsS92 w0 _ g s0_0 x1001_1 from by repeat (first | (with_reducible first | exact HI0.out | apply IsS92.alloc | apply IsS92.drewN | apply IsS92.drew | apply IsS92.set_1 | refine IsS92.far ?_ NB0_304.out _ | refine IsS92.far ?_ NB0_308.out _) | exact HI0.out))) : gb321 ≠ g))
         replace HI0 := Aside0.mk (IsS92.below (by repeat (first | (with_reducible first | exact HI0.out | apply IsS92.alloc | apply IsS92.drewN | apply IsS92.drew | apply IsS92.set_1 | refine IsS92.far ?_ NB0_304.out _ | refine IsS92.far ?_ NB0_308.out _) | exact HI0.out)) hb)
         clear hb hbox hg
         refine hK.out _ _ ⟨(blk_cell BK308.out 0).trans rfl, (blk_cell BK308.out 1).trans rfl, (blk_cell BK308.out 2).trans rfl⟩ (fun hHeld => ?_)
         clear hK K
         refine nS_ (some 8) ?_
         refine one_ (i := 4) (N := some 26) #[true, true, true, true, true, false, false, false, false, true, false, false] rfl rfl (one_of HT_.out (by kernel_rfl)) (by decide) (fun K hK => ?_)
         refine goes_ Try.func52 (by kernel_rfl) rfl #[.pointer (some ⟨g, 0, none⟩), .slice A1 l1.length c1] (by rfl) rfl rfl (by (try simp only [List.map_toArray, List.map_cons, List.map_nil]); first | done | rfl | (simp only [List.length_drop, List.length_take]; rfl)) ?_
         with_reducible refine (spec_l13DrawRain.calls k1 g s0_0 x1001_1 _ _ l1 t311 t314 w0 _ ?side1 ?side2 ?side3 ?side4 ?side5 A16.out).mono ?_
         (case side1 => repeat (first | (with_reducible first | exact HI0.out | apply IsS92.alloc | apply IsS92.drewN | apply IsS92.drew | apply IsS92.set_1 | refine IsS92.far ?_ NB0_304.out _ | refine IsS92.far ?_ NB0_308.out _ | refine IsS92.far ?_ NB0_321.out _) | exact HI0.out))
         (case side2 => repeat (first | (with_reducible first | exact HB.out | apply below_alloc | apply pw_below_drewN | apply below_drew1 | refine below_set ?_ (IsS92.ge HI0.out) | refine below_set ?_ GE304.out | refine below_set ?_ GE308.out | refine below_set ?_ GE321.out) | exact HB.out))
         (case side3 => exact Kd.C_keep 0 HR1.out (by repeat (first | (with_reducible first | exact HK.out | apply KeepBut.set_ | apply keep_drewN | apply keep_drew | apply keep_alloc | refine keep_far ?_ GW304.out _ | refine keep_far ?_ GW308.out _ | refine keep_far ?_ GW321.out _) | exact HK.out)) hf1)
         (case side4 => exact HC1.out)
         (case side5 => exact hf1)
         rintro e w40 ⟨v312, rfl, ho0, hi, hb, hk⟩
         refine ⟨_, rfl, ?_⟩
         replace BK304 := Aside0.mk (KeepBut.blk hk (g' := gb304) (o := .cells #[.slice none 0 0, .int .i64 0, .int .i64 0] 26 (0, 0)) (bT_ BK304) NB304_0.out (by simp))
         replace BK308 := Aside0.mk (KeepBut.blk hk (g' := gb308) (o := .cells #[.slice Ao37 x309000_1.length co37, .int .i64 x309001_1, .int .i64 x309002_1] 26 (0, 0)) (bT_ BK308) NB308_0.out (by simp))
         replace BK321 := Aside0.mk (KeepBut.blk hk (g' := gb321) (o := .cells #[.slice none 0 0, .int .i64 0, .int .i64 0] 26 (0, 0)) (bT_ BK321) NB321_0.out (by simp))
         have HO313 := Aside0.mk (Kd.R_lower (rN_ ho0 HO_309000) (keep_size (w := w) (g := g) (row := none) (by repeat (first | (with_reducible first | exact HK.out | apply KeepBut.set_ | apply keep_drewN | apply keep_drew | apply keep_alloc | refine keep_far ?_ GW304.out _ | refine keep_far ?_ GW308.out _ | refine keep_far ?_ GW321.out _) | exact HK.out))))
         replace HO_309000 := Aside0.mk (Kd.R_mono (Kd.R_told (Kd.R_oldK (IsS92.apart (show IsS92 w0 _ g s0_0 x1001_1 from by repeat (first | (with_reducible first | exact HI0.out | apply IsS92.alloc | apply IsS92.drewN | apply IsS92.drew | apply IsS92.set_1 | refine IsS92.far ?_ NB0_304.out _ | refine IsS92.far ?_ NB0_308.out _ | refine IsS92.far ?_ NB0_321.out _) | exact HI0.out)) (rT_ HO_309000) (by decide)) hk) (Kd.R_base ho0)) (fun _ h_ => h_.1))
         replace HK := Aside0.mk (KeepBut.trans (by repeat (first | (with_reducible first | exact HK.out | apply KeepBut.set_ | apply keep_drewN | apply keep_drew | apply keep_alloc | refine keep_far ?_ GW304.out _ | refine keep_far ?_ GW308.out _ | refine keep_far ?_ GW321.out _) | exact HK.out)) hk (.inl rfl))
         replace HB := Aside0.mk (hb)
         replace HI0 := Aside0.mk (hi)
         (try clear hb); (try clear hb2); (try clear hk); (try clear hi); (try clear ho0)
         obtain ⟨Ao41, co41, eo41⟩ := Kd.R_slice HO313.out
         (first | subst eo41 | (injection eo41 with f1_ f2_ f3_; have f4_ := f1_.symm; have f5_ := f3_.symm; clear f1_ f2_ f3_; subst f4_; subst f5_))
         refine hK.out _ _ ⟨(blk_cell BK308.out 0).trans rfl, (blk_cell BK308.out 1).trans rfl, (blk_cell BK308.out 2).trans rfl⟩ (fun hHeld => ?_)
         clear hK K
         refine nS_ (some 26) ?_
         refine one_ (i := 5) (N := some 27) #[true, true, true, true, true, true, false, false, false, true, false, false] rfl rfl (one_of HT_.out (by kernel_rfl)) (by decide) (fun K hK => ?_)
         refine goes_ Try.func10 (by kernel_rfl) rfl #[.slice A1 l1.length c1, .agg #[.slice Ao37 x309000_1.length co37, .int .i64 x309001_1, .int .i64 x309002_1], .slice Ao41 t311.length co41] (by rfl) rfl rfl (by (try simp only [List.map_toArray, List.map_cons, List.map_nil]); first | done | rfl | (simp only [List.length_drop, List.length_take]; rfl)) ?_
         with_reducible refine (spec_FlowStep.calls k1 _ _ l1 _ _ x309000_1 x309001_1 x309002_1 _ _ t311 t315 t318 t319 false _ ?side1 ?side2 ?side3 ?side4 ?side5 ?side6 A17.out).mono ?_
         (case side1 => exact Kd.C_keep 0 HR1.out (by repeat (first | (with_reducible first | exact HK.out | apply KeepBut.set_ | apply keep_drewN | apply keep_drew | apply keep_alloc | refine keep_far ?_ GW304.out _ | refine keep_far ?_ GW308.out _ | refine keep_far ?_ GW321.out _) | exact HK.out)) hf1)
         (case side2 => exact HC1.out)
         (case side3 => exact rD_ HO_309000)
         (case side4 => exact (Kd.R_reads' HO_309000.out).2.1)
         (case side5 => exact rD_ HO313)
         (case side6 => exact (Kd.R_reads' HO313.out).2.1)
         rintro e w42 ⟨v316, rfl, ho0, hb⟩
         refine ⟨_, rfl, ?_⟩
         have HO317 := Aside0.mk (Kd.R_lower (rN_ (rN_ ho0 HO_309000) HO313) (keep_size (w := w) (g := g) (row := none) (by repeat (first | (with_reducible first | exact HK.out | apply KeepBut.set_ | apply keep_drewN | apply keep_drew | apply keep_alloc | refine keep_far ?_ GW304.out _ | refine keep_far ?_ GW308.out _ | refine keep_far ?_ GW321.out _) | exact HK.out))))
         replace HO_309000 := rE_ HO_309000 ho0 hb; replace HO313 := rE_ HO313 ho0 hb; replace BK304 := bB_ BK304 hb; replace BK308 := bB_ BK308 hb; replace BK321 := bB_ BK321 hb
         replace HK := Aside0.mk (KeepBut.trans (by repeat (first | (with_reducible first | exact HK.out | apply KeepBut.set_ | apply keep_drewN | apply keep_drew | apply keep_alloc | refine keep_far ?_ GW304.out _ | refine keep_far ?_ GW308.out _ | refine keep_far ?_ GW321.out _) | exact HK.out)) (KeepBut.of_below hb g none) (.inl rfl))
         replace HB := Aside0.mk (below_step (by repeat (first | (with_reducible first | exact HB.out | apply below_alloc | apply pw_below_drewN | apply below_drew1 | refine below_set ?_ (IsS92.ge HI0.out) | refine below_set ?_ GE304.out | refine below_set ?_ GE308.out | refine below_set ?_ GE321.out) | exact HB.out)) hb)
         replace HI0 := Aside0.mk (IsS92.below (by repeat (first | (with_reducible first | exact HI0.out | apply IsS92.alloc | apply IsS92.drewN | apply IsS92.drew | apply IsS92.set_1 | refine IsS92.far ?_ NB0_304.out _ | refine IsS92.far ?_ NB0_308.out _ | refine IsS92.far ?_ NB0_321.out _) | exact HI0.out)) hb)
         (try clear hb); (try clear hb2); (try clear hk); (try clear hi); (try clear ho0)
         refine hK.out _ _ ⟨(blk_cell BK308.out 0).trans rfl, (blk_cell BK308.out 1).trans rfl, (blk_cell BK308.out 2).trans rfl⟩ (fun hHeld => ?_)
         clear hK K
         refine nS_ (some 27) ?_
         refine pT_ 6 (some 21) #[true, true, true, true, true, true, true, false, false, true, false, false] HT_ ?_
         refine pT_ 7 (some 28) #[true, true, true, true, true, true, true, true, false, true, false, false] HT_ ?_
         refine pT_ 8 (some 29) #[true, true, true, true, true, true, true, true, true, true, false, false] HT_ ?_
         exact norm_ (by simp only [putAll, Act.put, List.setIfInBounds_toArray, List.set_cons_zero, List.set_cons_succ]) (hCont (.slice Ao41 t311.length co41, v316, gb321) _ ⟨hHeld, (rM_ HO313), (rM_ HO317), (rM_ HO_309000), (bT_ BK304), (bT_ BK308), (bT_ BK321), GW321.out, GE321.out, NB0_321.out, NB321_0.out, NB304_321.out, NB321_304.out, NB308_321.out, NB321_308.out, (by repeat (first | (with_reducible first | exact HI0.out | apply IsS92.alloc | apply IsS92.drewN | apply IsS92.drew | apply IsS92.set_1 | refine IsS92.far ?_ NB0_304.out _ | refine IsS92.far ?_ NB0_308.out _ | refine IsS92.far ?_ NB0_321.out _) | exact HI0.out)), (by repeat (first | (with_reducible first | exact HK.out | apply KeepBut.set_ | apply keep_drewN | apply keep_drew | apply keep_alloc | refine keep_far ?_ GW304.out _ | refine keep_far ?_ GW308.out _ | refine keep_far ?_ GW321.out _) | exact HK.out)), (by repeat (first | (with_reducible first | exact HB.out | apply below_alloc | apply pw_below_drewN | apply below_drew1 | refine below_set ?_ (IsS92.ge HI0.out) | refine below_set ?_ GE304.out | refine below_set ?_ GE308.out | refine below_set ?_ GE321.out) | exact HB.out))⟩)
       rintro ⟨v312, v316, gb321⟩ w43 ⟨hS_, h0_, h1_, h2_, h3_, h4_, h5_, h6_, h7_, h8_, h9_, h10_, h11_, h12_, h13_, h14_, h15_, h16_⟩
       try dsimp only at h0_ h1_ h2_ h3_ h4_ h5_ h6_ h7_ h8_ h9_ h10_ h11_ h12_ h13_ h14_ h15_ h16_
       have HO313 := Aside0.mk h0_; have HO317 := Aside0.mk h1_; replace HO_309000 := Aside0.mk h2_; replace BK304 := Aside0.mk h3_; replace BK308 := Aside0.mk h4_; have BK321 := Aside0.mk h5_; have GW321 := Aside0.mk h6_; have GE321 := Aside0.mk h7_; have NB0_321 := Aside0.mk h8_; have NB321_0 := Aside0.mk h9_; have NB304_321 := Aside0.mk h10_; have NB321_304 := Aside0.mk h11_; have NB308_321 := Aside0.mk h12_; have NB321_308 := Aside0.mk h13_; replace HI0 := Aside0.mk h14_; replace HK := Aside0.mk h15_; replace HB := Aside0.mk h16_; clear h0_ h1_ h2_ h3_ h4_ h5_ h6_ h7_ h8_ h9_ h10_ h11_ h12_ h13_ h14_ h15_ h16_
       have hHeld : w43.cell? ⟨gb308, 0, none⟩ = some (.slice Ao37 x309000_1.length co37) ∧ w43.cell? ⟨gb308, 1, none⟩ = some (.int .i64 x309001_1) ∧ w43.cell? ⟨gb308, 2, none⟩ = some (.int .i64 x309002_1) := hS_
       obtain ⟨Ao44, co44, eo44⟩ := Kd.R_slice HO317.out
       (first | subst eo44 | (injection eo44 with f1_ f2_ f3_; have f4_ := f1_.symm; have f5_ := f3_.symm; clear f1_ f2_ f3_; subst f4_; subst f5_))
       refine norm_ (a' := ?_) ?_ ?_
       rotate_left
       ·simp only [putAll, Act.put, List.setIfInBounds_toArray, List.set_cons_zero, List.set_cons_succ]
        rfl
       refine one_ (i := 10) (N := none) #[true, true, true, true, true, true, true, true, true, true, true, false] rfl rfl (one_of HT_.out (by kernel_rfl)) (by decide) (fun K hK => ?_)
       have hs45 : w43.cell? ⟨gb321, 0, none⟩ = some (.slice none 0 0) := (blk_cell BK321.out 0).trans rfl
       have hfs45 := blk_frozen BK321.out 0; have hns45_0 := NB304_321.out; have hns45_1 := NB308_321.out; have hms45_0 := NB321_304.out; have hms45_1 := NB321_308.out
       have hs46 : w43.cell? ⟨gb321, 1, none⟩ = some (.int .i64 0) := (blk_cell BK321.out 1).trans rfl
       have hfs46 := blk_frozen BK321.out 1; have hns46_0 := NB304_321.out; have hns46_1 := NB308_321.out; have hms46_0 := NB321_304.out; have hms46_1 := NB321_308.out
       have hs47 : w43.cell? ⟨gb321, 2, none⟩ = some (.int .i64 0) := (blk_cell BK321.out 2).trans rfl
       have hfs47 := blk_frozen BK321.out 2; have hns47_0 := NB304_321.out; have hns47_1 := NB308_321.out; have hms47_0 := NB321_304.out; have hms47_1 := NB321_308.out
       refine skip_ (w1 := ?_) (by rfl) rfl ?_ ?_
       rotate_left
       ·go_simp
        rfl
       refine hK.out _ _ ⟨((cell_far (p := ⟨gb321, _, none⟩) NB308_321.out _).trans (((cell_far (p := ⟨gb321, _, none⟩) NB308_321.out _).trans (((cell_far (p := ⟨gb321, _, none⟩) NB308_321.out _).trans (hHeld.1)))))), ((cell_far (p := ⟨gb321, _, none⟩) NB308_321.out _).trans (((cell_far (p := ⟨gb321, _, none⟩) NB308_321.out _).trans (((cell_far (p := ⟨gb321, _, none⟩) NB308_321.out _).trans (hHeld.2.1)))))), ((cell_far (p := ⟨gb321, _, none⟩) NB308_321.out _).trans (((cell_far (p := ⟨gb321, _, none⟩) NB308_321.out _).trans (((cell_far (p := ⟨gb321, _, none⟩) NB308_321.out _).trans (hHeld.2.2))))))⟩ (fun hHeld => ?_)
       clear hK K
       refine pT_ 11 (some 9) #[true, true, true, true, true, true, true, true, true, true, true, true] HT_ ?_
       refine done_ (done_of HT_.out (by kernel_rfl)) ?_
       try go_wp2
       go_roundg k1
       case measure => have := HK1.out; omega
       case rel => exact ⟨(wrap64 (x7_1 + 1)), (t314), (x309000_1), (x309001_1), (x309002_1), (.slice Ao37 x309000_1.length co37), (by first | rfl | (simp; done) | (simp [*]; done)), H', ⟨by have := HK1.out; omega⟩, ⟨by (with_reducible repeat (first | apply Kd.R_alloc | apply Kd.R_drewN | apply Kd.R_drew)); exact Kd.R_mono (Kd.R_far (p := ⟨gb321, 2, none⟩) (Kd.R_far (p := ⟨gb321, 1, none⟩) (Kd.R_far (p := ⟨gb321, 0, none⟩) (Kd.R_types HO_309000.out BK321.out (by decide)) (fun _ hk => hk.2) (.slice Ao44 t315.length co44)) (fun _ hk => hk.2) (.int .i64 t318)) (fun _ hk => hk.2) (.int .i64 t319)) (fun _ hk => trivial)⟩, ⟨by (with_reducible repeat (first | refine blk_drewN ?_ _ | refine blk_drew ?_ | refine blk_alloc ?_ _)); refine blk_far ?_ NB304_321.out _; (with_reducible repeat (first | refine blk_drewN ?_ _ | refine blk_drew ?_ | refine blk_alloc ?_ _)); refine blk_far ?_ NB304_321.out _; (with_reducible repeat (first | refine blk_drewN ?_ _ | refine blk_drew ?_ | refine blk_alloc ?_ _)); refine blk_far ?_ NB304_321.out _; exact bT_ BK304⟩, ⟨by (with_reducible repeat (first | refine blk_drewN ?_ _ | refine blk_drew ?_ | refine blk_alloc ?_ _)); refine blk_far ?_ NB308_321.out _; (with_reducible repeat (first | refine blk_drewN ?_ _ | refine blk_drew ?_ | refine blk_alloc ?_ _)); refine blk_far ?_ NB308_321.out _; (with_reducible repeat (first | refine blk_drewN ?_ _ | refine blk_drew ?_ | refine blk_alloc ?_ _)); refine blk_far ?_ NB308_321.out _; exact bT_ BK308⟩, ⟨by repeat (first | (with_reducible first | exact HI0.out | apply IsS92.alloc | apply IsS92.drewN | apply IsS92.drew | apply IsS92.set_1 | refine IsS92.far ?_ NB0_304.out _ | refine IsS92.far ?_ NB0_308.out _ | refine IsS92.far ?_ NB0_321.out _) | exact HI0.out)⟩, ⟨by repeat (first | (with_reducible first | exact HK.out | apply KeepBut.set_ | apply keep_drewN | apply keep_drew | apply keep_alloc | refine keep_far ?_ GW304.out _ | refine keep_far ?_ GW308.out _ | refine keep_far ?_ GW321.out _) | exact HK.out)⟩, ⟨by repeat (first | (with_reducible first | exact HB.out | apply below_alloc | apply pw_below_drewN | apply below_drew1 | refine below_set ?_ (IsS92.ge HI0.out) | refine below_set ?_ GE304.out | refine below_set ?_ GE308.out | refine below_set ?_ GE321.out) | exact HB.out)⟩⟩
     ·rw [if_neg c15] at H
      have c15b0 : decide (x7_1 < t309) = false := decide_eq_false c15
      clear c15
      simp only [Option.some.injEq, Prod.mk.injEq] at H
      obtain ⟨rfl, rfl, rfl, rfl⟩ := H
      have hnb48 := NB308_304.out; have hnc48 := NB304_308.out; have hnb49 := NB308_0.out; have hnc49 := NB0_308.out
      have hcz50_0 : wr.cell? ⟨gb308, 0, none⟩ = some (u309000) := (blk_cell BK308.out 0).trans rfl
      have hcz50_1 : wr.cell? ⟨gb308, 1, none⟩ = some (.int .i64 x309001_1) := (blk_cell BK308.out 1).trans rfl
      have hcz50_2 : wr.cell? ⟨gb308, 2, none⟩ = some (.int .i64 x309002_1) := (blk_cell BK308.out 2).trans rfl
      have hfz50_0 := blk_frozen BK308.out 0; have hfz50_1 := blk_frozen BK308.out 1; have hfz50_2 := blk_frozen BK308.out 2
      obtain ⟨Ao51, co51, eo51⟩ := Kd.R_slice HO_309000.out
      subst eo51
      have hnb52 := NB304_0.out; have hnc52 := NB0_304.out
      have hcz53_0 : wr.cell? ⟨gb304, 0, none⟩ = some (.slice none 0 0) := (blk_cell BK304.out 0).trans rfl
      have hcz53_1 : wr.cell? ⟨gb304, 1, none⟩ = some (.int .i64 0) := (blk_cell BK304.out 1).trans rfl
      have hcz53_2 : wr.cell? ⟨gb304, 2, none⟩ = some (.int .i64 0) := (blk_cell BK304.out 2).trans rfl
      have hfz53_0 := blk_frozen BK304.out 0; have hfz53_1 := blk_frozen BK304.out 1; have hfz53_2 := blk_frozen BK304.out 2
      go_wp2
      refine bodyPost_ret (results_cell_row rfl _ _ gb304 26 #[.slice Ao51 x309000_1.length co51, .int .i64 x309001_1, .int .i64 x309002_1] (0, 0) _ rfl (by (with_reducible repeat (first | refine blk_drewN ?_ _ | refine blk_drew ?_ | refine blk_alloc ?_ _)); refine blk_put (cs := #[.slice Ao51 x309000_1.length co51, .int .i64 x309001_1, .int .i64 0]) ?_ 2 _ rfl; (with_reducible repeat (first | refine blk_drewN ?_ _ | refine blk_drew ?_ | refine blk_alloc ?_ _)); refine blk_put (cs := #[.slice Ao51 x309000_1.length co51, .int .i64 0, .int .i64 0]) ?_ 1 _ rfl; (with_reducible repeat (first | refine blk_drewN ?_ _ | refine blk_drew ?_ | refine blk_alloc ?_ _)); refine blk_put (cs := #[.slice none 0 0, .int .i64 0, .int .i64 0]) ?_ 0 _ rfl; exact bT_ BK304) Try.underlying26 rfl (by kernel_rfl)) rfl ?_
      exact ⟨_, by first | rfl | (simp [errW_none, errW_some] <;> rfl) | (simp [*, errW_none, errW_some] <;> rfl), by (with_reducible repeat (first | apply Kd.R_alloc | apply Kd.R_drewN | apply Kd.R_drew)); exact Kd.R_mono (Kd.R_far (p := ⟨gb304, 2, none⟩) (Kd.R_far (p := ⟨gb304, 1, none⟩) (Kd.R_far (p := ⟨gb304, 0, none⟩) (Kd.R_types HO_309000.out BK304.out (by decide)) (fun _ hk => hk.2) (.slice Ao51 x309000_1.length co51)) (fun _ hk => hk.2) (.int .i64 x309001_1)) (fun _ hk => hk.2) (.int .i64 x309002_1)) (fun _ hk => trivial), by repeat (first | (with_reducible first | exact HI0.out | apply IsS92.alloc | apply IsS92.drewN | apply IsS92.drew | apply IsS92.set_1 | refine IsS92.far ?_ NB0_304.out _ | refine IsS92.far ?_ NB0_308.out _) | exact HI0.out), by repeat (first | (with_reducible first | exact HB.out | apply below_alloc | apply pw_below_drewN | apply below_drew1 | refine below_set ?_ (IsS92.ge HI0.out) | refine below_set ?_ GE304.out | refine below_set ?_ GE308.out) | exact HB.out), by repeat (first | (with_reducible first | exact HK.out | apply KeepBut.set_ | apply keep_drewN | apply keep_drew | apply keep_alloc | refine keep_far ?_ GW304.out _ | refine keep_far ?_ GW308.out _) | exact HK.out)⟩
  ·rw [if_neg c4] at H
   exact absurd H (by simp)
 ·rw [if_neg c3] at H
  exact absurd H (by simp)

end Go.Proofs.Ytopfdmodbhopiaa.QFnWaterBook
