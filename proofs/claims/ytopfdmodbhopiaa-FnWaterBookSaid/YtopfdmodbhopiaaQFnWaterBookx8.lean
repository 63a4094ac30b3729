-- Written by a program of this session out of the printer's texts and contracts of its own.
import Derived.Test.YtopfdmodbhopiaaSq
import Derived.Test.YtopfdmodbhopiaaQFnWaterBookx0
import Derived.Test.YtopfdmodbhopiaaQFnWaterBookx5
import Derived.Test.YtopfdmodbhopiaaQFnWaterBookx7
namespace Go.Proofs.Ytopfdmodbhopiaa.QFnWaterBook
open Go.RowKit Go.Proofs.YtopfdmodbhopiaaW.PrintWords Go.Proofs.YtopfdmodbhopiaaW.PrintLast Go.Proofs.YtopfdmodbhopiaaW.PrintMore Go.Proofs.Ytopfdmodbhopiaa.Sq
attribute [local go_sem] max2_int min2_int max_two min_two max_three min_three max_four min_four   -- for this text's walks alone
set_option linter.unusedVariables false
set_option linter.unusedSimpArgs false

/-! ### spec_l1Rd_box: function 66 -/
mutual
def spec_l1Rd_box.j0 : Nat → Bool → List Int → Int → Int → Int → Option (Int × Int × List Int × Int)
 | 0, _, _, _, _, _ => none
 | k + 1, x20, x1000, x1001, x256000, x256001 => if x20 = true then ((spec_l1Rd_below.f x1000 x1001 5).bind fun bt258 => ((spec_l1Rd_below.f x1000 bt258.2 5).bind fun bt260 => (spec_l1Rd_box.j1 k x1000 bt260.2 (wrap64 (x256000 + bt258.1)) (wrap64 (x256001 + bt260.1))))) else (spec_l1Rd_box.j1 k x1000 x1001 x256000 x256001)
def spec_l1Rd_box.j1 : Nat → List Int → Int → Int → Int → Option (Int × Int × List Int × Int)
 | 0, _, _, _, _ => none
 | k + 1, x1000, x1001, x256000, x256001 => spec_l1Rd_box.l0 k x1000 x1001 x256000 x256001 ([] : List Int)
def spec_l1Rd_box.l0 : Nat → List Int → Int → Int → Int → List Int → Option (Int × Int × List Int × Int)
 | 0, _, _, _, _, _ => none
 | k + 1, x1000, x1001, x256000, x256001, x256002 => if (x256002.length : Int) < (wrap64 (x256000 * x256001)) then ((spec_l1Rd_below.f x1000 x1001 9).bind fun bt262 => (if x256002.length < 17592186044416 then (spec_l1Rd_box.l0 k x1000 bt262.2 x256000 x256001 (x256002 ++ [bt262.1])) else (none))) else (some (x256000, x256001, x256002, x1001))
end
def spec_l1Rd_box.f (k : Nat) (s0_0 : List Int) (s0_1 : Int) : Option (Int × Int × List Int × Int) := (spec_l1Rd_below.f s0_0 s0_1 5).bind fun bt251 => ((spec_l1Rd_below.f s0_0 bt251.2 6).bind fun bt253 => (if (s0_0.length : Int) > 60 then ((spec_l1Rd_once.f s0_0 bt253.2 2).bind fun bt256 => (spec_l1Rd_box.j0 k bt256.1 s0_0 bt256.2 (wrap64 (1 + bt251.1)) (wrap64 (1 + bt253.1)))) else (spec_l1Rd_box.j0 k false s0_0 bt253.2 (wrap64 (1 + bt251.1)) (wrap64 (1 + bt253.1)))))
theorem spec_l1Rd_box.mono_l : ∀ k, (∀ y0 y1 y2 y3 y4, LeO (spec_l1Rd_box.j0 k y0 y1 y2 y3 y4) (spec_l1Rd_box.j0 (k + 1) y0 y1 y2 y3 y4)) ∧ (∀ y0 y1 y2 y3, LeO (spec_l1Rd_box.j1 k y0 y1 y2 y3) (spec_l1Rd_box.j1 (k + 1) y0 y1 y2 y3)) ∧ (∀ y0 y1 y2 y3 y4, LeO (spec_l1Rd_box.l0 k y0 y1 y2 y3 y4) (spec_l1Rd_box.l0 (k + 1) y0 y1 y2 y3 y4))
 | 0 => ⟨fun _ _ _ _ _ r h => by simp [spec_l1Rd_box.j0] at h, fun _ _ _ _ r h => by simp [spec_l1Rd_box.j1] at h, fun _ _ _ _ _ r h => by simp [spec_l1Rd_box.l0] at h⟩
 | k + 1 => by
  obtain ⟨ih0, ih1, ih2⟩ := spec_l1Rd_box.mono_l k
  refine ⟨?_, ?_, ?_⟩
  intro y0 y1 y2 y3 y4; unfold spec_l1Rd_box.j0; rotate_left
  intro y0 y1 y2 y3; unfold spec_l1Rd_box.j1; rotate_left
  intro y0 y1 y2 y3 y4; unfold spec_l1Rd_box.l0; rotate_left
  all_goals repeat' first
  | (with_reducible exact ih0 _ _ _ _ _)
  | (with_reducible exact ih1 _ _ _ _)
  | (with_reducible exact ih2 _ _ _ _ _)
  | (with_reducible exact LeO.refl _)
  | (with_reducible exact LeO.none _)
  | (with_reducible refine LeO.ite ?_ ?_)
  | (with_reducible refine LeO.bind ?_ (fun _ => ?_))
  | exact ih0 _ _ _ _ _
  | exact ih1 _ _ _ _
  | exact ih2 _ _ _ _ _
  | exact LeO.none _
  | refine LeO.ite ?_ ?_
  | refine LeO.bind ?_ (fun _ => ?_)
theorem spec_l1Rd_box.mono : ∀ a0 a1 k, LeO (spec_l1Rd_box.f k a0 a1) (spec_l1Rd_box.f (k + 1) a0 a1) := by
 intro a0 a1 k
 obtain ⟨ih0, ih1, ih2⟩ := spec_l1Rd_box.mono_l k
 unfold spec_l1Rd_box.f
 repeat' first
   | (with_reducible exact ih0 _ _ _ _ _)
   | (with_reducible exact ih1 _ _ _ _)
   | (with_reducible exact ih2 _ _ _ _ _)
   | (with_reducible exact LeO.refl _)
   | (with_reducible exact LeO.none _)
   | (with_reducible refine LeO.ite ?_ ?_)
   | (with_reducible refine LeO.bind ?_ (fun _ => ?_))
   | exact ih0 _ _ _ _ _
   | exact ih1 _ _ _ _
   | exact ih2 _ _ _ _ _
   | exact LeO.none _
   | refine LeO.ite ?_ ?_
   | refine LeO.bind ?_ (fun _ => ?_)
def spec_l1Rd_box.T6 : Bool × List (List Nat × List Nat) := (true, [([], []), ([0], [0]), ([], []), ([2], [2]), ([3], [3]), ([1, 4, 3], [1, 4]), ([0, 1, 2, 3, 4, 5], []), ([6, 5, 5, 0, 1, 2, 3, 4, 5], [5, 6])])
def spec_l1Rd_box.B6 : List Nat := [0, 1, 0, 4, 12, 31, 63, 127]
theorem spec_l1Rd_box.tab6 : rtab .any (opsOf Try.f66 6) = spec_l1Rd_box.T6 := by kernel_rfl
theorem spec_l1Rd_box.bits6 : waitsOk spec_l1Rd_box.T6.2 spec_l1Rd_box.B6 = true := by kernel_rfl
set_option maxHeartbeats 8000000 in
set_option maxRecDepth 100000 in
theorem spec_l1Rd_box.calls (k : Nat) (g : Nat) (s0_0 : List Int) (s0_1 : Int) (r1 : Int) (r2 : Int) (r3 : List Int) (r4 : Int) (w0 w : World) (hI : IsS92 w0 w g s0_0 s0_1) (hB : Below w0.heap.size w0 w) (h : spec_l1Rd_box.f k s0_0 s0_1 = some (r1, r2, r3, r4)) :
  Calls Try.prog 66 #[.pointer (some ⟨g, 0, none⟩)] w fun e w' => ∃ v2_ : Value, e = .returned (.agg #[.int .i64 r1, .int .i64 r2, v2_]) ∧ Kd.R (Kd.int .i64) 2 w' w.heap.size (fun _ => True) v2_ r3 ∧ IsS92 w0 w' g s0_0 r4 ∧ Below w0.heap.size w0 w' ∧ KeepBut w w' g none := by
 have hu62 := Try.underlying62; have HI0 := Aside0.mk hI
 have HK := Aside0.mk (KeepBut.refl w g none)
 have HL := Aside0.mk hB.size; clear hI; have HW0 := Aside0.mk hB.size; have HB := Aside0.mk hB; clear hB
 have H : ((spec_l1Rd_below.f s0_0 s0_1 5).bind fun bt251 => ((spec_l1Rd_below.f s0_0 bt251.2 6).bind fun bt253 => (if (s0_0.length : Int) > 60 then ((spec_l1Rd_once.f s0_0 bt253.2 2).bind fun bt256 => (spec_l1Rd_box.j0 k bt256.1 s0_0 bt256.2 (wrap64 (1 + bt251.1)) (wrap64 (1 + bt253.1)))) else (spec_l1Rd_box.j0 k false s0_0 bt253.2 (wrap64 (1 + bt251.1)) (wrap64 (1 + bt253.1)))))) = some (r1, r2, r3, r4) := h
 clear h; replace H := Option.bind_eq_some_iff.mp H
 obtain ⟨⟨t251, t252⟩, A20, H⟩ := H
 replace H : ((spec_l1Rd_below.f s0_0 t252 6).bind fun bt253 => (if (s0_0.length : Int) > 60 then ((spec_l1Rd_once.f s0_0 bt253.2 2).bind fun bt256 => (spec_l1Rd_box.j0 k bt256.1 s0_0 bt256.2 (wrap64 (1 + t251)) (wrap64 (1 + bt253.1)))) else (spec_l1Rd_box.j0 k false s0_0 bt253.2 (wrap64 (1 + t251)) (wrap64 (1 + bt253.1))))) = some (r1, r2, r3, r4) := H
 have A2 := Aside0.mk A20; clear A20; replace H := Option.bind_eq_some_iff.mp H
 obtain ⟨⟨t253, t254⟩, A30, H⟩ := H
 replace H : (if (s0_0.length : Int) > 60 then ((spec_l1Rd_once.f s0_0 t254 2).bind fun bt256 => (spec_l1Rd_box.j0 k bt256.1 s0_0 bt256.2 (wrap64 (1 + t251)) (wrap64 (1 + t253)))) else (spec_l1Rd_box.j0 k false s0_0 t254 (wrap64 (1 + t251)) (wrap64 (1 + t253)))) = some (r1, r2, r3, r4) := H
 have A3 := Aside0.mk A30; clear A30; have HC4 := Aside0.mk H; clear H
 go_enter Try.func66, Try.ntmps66
 go_upto_region 2 with (first | ((with_reducible refine gate_dst (N := 2) rfl ?_); refine box_event ?hg (N := 2) ?hd (cs := #[.int .i64 0, .int .i64 0, .slice none 0 0]) (t := 62) ?hr ?_; (case hd => rfl); (case hg => rfl); (case hr => first | (go_simp; done) | (go_simp; rfl)); intro gb250 hg w5 hbox hb; replace HB := Aside0.mk (below_step (by repeat (first | (with_reducible first | exact HB.out | apply below_alloc | apply pw_below_drewN | apply below_drew1 | refine below_set ?_ (IsS92.ge HI0.out)) | exact HB.out)) hb); have BK250 := Aside0.mk (hbox); have GW250 := Aside0.mk ((by rw [hg]; exact (keep_size (w := w) (g := g) (row := none) (by repeat (first | (with_reducible first | exact HK.out | apply KeepBut.set_ | apply keep_drewN | apply keep_drew | apply keep_alloc) | exact HK.out))) : w.heap.size ≤ gb250)); have GE250 := Aside0.mk ((Nat.le_trans HW0.out (by rw [hg]; exact (keep_size (w := w) (g := g) (row := none) (by repeat (first | (with_reducible first | exact HK.out | apply KeepBut.set_ | apply keep_drewN | apply keep_drew | apply keep_alloc) | exact HK.out))) : w.heap.size ≤ gb250) : w0.heap.size ≤ gb250)); replace HK := Aside0.mk (KeepBut.trans (by repeat (first | (with_reducible first | exact HK.out | apply KeepBut.set_ | apply keep_drewN | apply keep_drew | apply keep_alloc) | exact HK.out)) (KeepBut.of_below hb g none) (.inl rfl)); have NB0_250 := Aside0.mk ((by rw [hg]; exact Nat.ne_of_lt (IsS92.lt (show IsS92 w0 _ g s0_0 s0_1 from by repeat (first | (with_reducible first | exact HI0.out | apply IsS92.alloc | apply IsS92.drewN | apply IsS92.drew | apply IsS92.set_1) | exact HI0.out))) : g ≠ gb250)); have NB250_0 := Aside0.mk ((by rw [hg]; exact Nat.ne_of_gt (IsS92.lt (show IsS92 w0 _ g s0_0 s0_1 from by repeat (first | (with_reducible first | exact HI0.out | apply IsS92.alloc | apply IsS92.drewN | apply IsS92.drew | apply IsS92.set_1) | exact HI0.out))) : gb250 ≠ g)); replace HI0 := Aside0.mk (IsS92.below (by repeat (first | (with_reducible first | exact HI0.out | apply IsS92.alloc | apply IsS92.drewN | apply IsS92.drew | apply IsS92.set_1) | exact HI0.out)) hb); clear hb hbox hg) | ((with_reducible refine gate_callee (f := 53) rfl ?_); refine gL_ (some 5) Try.func53 #[.pointer (some ⟨g, 0, none⟩), .int .i64 5] ?_; (with_reducible refine (spec_l1Rd_below.calls g s0_0 s0_1 5 t251 t252 w0 _ ?side1 ?side2 A2.out).mono ?_); (case side1 => repeat (first | (with_reducible first | exact HI0.out | apply IsS92.alloc | apply IsS92.drewN | apply IsS92.drew | apply IsS92.set_1 | refine IsS92.far ?_ NB0_250.out _) | exact HI0.out)); (case side2 => repeat (first | (with_reducible first | exact HB.out | apply below_alloc | apply pw_below_drewN | apply below_drew1 | refine below_set ?_ (IsS92.ge HI0.out) | refine below_set ?_ GE250.out) | exact HB.out)); rintro e w6 ⟨rfl, hi, hb, hk⟩; refine ⟨_, rfl, ?_⟩; replace BK250 := Aside0.mk (KeepBut.blk hk (g' := gb250) (o := .cells #[.int .i64 0, .int .i64 0, .slice none 0 0] 62 (0, 0)) (bT_ BK250) NB250_0.out (by simp)); replace HK := Aside0.mk (KeepBut.trans (by repeat (first | (with_reducible first | exact HK.out | apply KeepBut.set_ | apply keep_drewN | apply keep_drew | apply keep_alloc | refine keep_far ?_ GW250.out _) | exact HK.out)) hk (.inl rfl)); replace HB := Aside0.mk (hb); replace HI0 := Aside0.mk (hi); (try clear hb); (try clear hb2); (try clear hk); (try clear hi)) | ((with_reducible refine gate_callee (f := 53) rfl ?_); refine gL_ (some 8) Try.func53 #[.pointer (some ⟨g, 0, none⟩), .int .i64 6] ?_; (with_reducible refine (spec_l1Rd_below.calls g s0_0 t252 6 t253 t254 w0 _ ?side1 ?side2 A3.out).mono ?_); (case side1 => repeat (first | (with_reducible first | exact HI0.out | apply IsS92.alloc | apply IsS92.drewN | apply IsS92.drew | apply IsS92.set_1 | refine IsS92.far ?_ NB0_250.out _) | exact HI0.out)); (case side2 => repeat (first | (with_reducible first | exact HB.out | apply below_alloc | apply pw_below_drewN | apply below_drew1 | refine below_set ?_ (IsS92.ge HI0.out) | refine below_set ?_ GE250.out) | exact HB.out)); rintro e w7 ⟨rfl, hi, hb, hk⟩; refine ⟨_, rfl, ?_⟩; replace BK250 := Aside0.mk (KeepBut.blk hk (g' := gb250) (o := .cells #[.int .i64 0, .int .i64 0, .slice none 0 0] 62 (0, 0)) (bT_ BK250) NB250_0.out (by simp)); replace HK := Aside0.mk (KeepBut.trans (by repeat (first | (with_reducible first | exact HK.out | apply KeepBut.set_ | apply keep_drewN | apply keep_drew | apply keep_alloc | refine keep_far ?_ GW250.out _) | exact HK.out)) hk (.inl rfl)); replace HB := Aside0.mk (hb); replace HI0 := Aside0.mk (hi); (try clear hb); (try clear hb2); (try clear hk); (try clear hi)) | ((with_reducible refine gate_dst (N := 3) rfl ?_); refine box_event ?hg (N := 3) ?hd (cs := #[.int .i64 0, .int .i64 0, .slice none 0 0]) (t := 62) ?hr ?_; (case hd => rfl); (case hg => rfl); (case hr => first | (go_simp; done) | (go_simp; rfl)); intro gb255 hg w8 hbox hb; replace HB := Aside0.mk (below_step (by repeat (first | (with_reducible first | exact HB.out | apply below_alloc | apply pw_below_drewN | apply below_drew1 | refine below_set ?_ (IsS92.ge HI0.out) | refine below_set ?_ GE250.out) | exact HB.out)) hb); have BK255 := Aside0.mk (hbox); have GW255 := Aside0.mk ((by rw [hg]; exact (keep_size (w := w) (g := g) (row := none) (by repeat (first | (with_reducible first | exact HK.out | apply KeepBut.set_ | apply keep_drewN | apply keep_drew | apply keep_alloc | refine keep_far ?_ GW250.out _) | exact HK.out))) : w.heap.size ≤ gb255)); have GE255 := Aside0.mk ((Nat.le_trans HW0.out (by rw [hg]; exact (keep_size (w := w) (g := g) (row := none) (by repeat (first | (with_reducible first | exact HK.out | apply KeepBut.set_ | apply keep_drewN | apply keep_drew | apply keep_alloc | refine keep_far ?_ GW250.out _) | exact HK.out))) : w.heap.size ≤ gb255) : w0.heap.size ≤ gb255)); replace HK := Aside0.mk (KeepBut.trans (by repeat (first | (with_reducible first | exact HK.out | apply KeepBut.set_ | apply keep_drewN | apply keep_drew | apply keep_alloc | refine keep_far ?_ GW250.out _) | exact HK.out)) (KeepBut.of_below hb g none) (.inl rfl)); have NB250_255 := nL_ BK250 hg; have NB255_250 := nG_ BK250 hg; replace BK250 := bB_ BK250 hb; have NB0_255 := Aside0.mk ((by rw [hg]; exact Nat.ne_of_lt (IsS92.lt (show IsS92 w0 _ g s0_0 t254 from by repeat (first | (with_reducible first | exact HI0.out | apply IsS92.alloc | apply IsS92.drewN | apply IsS92.drew | apply IsS92.set_1 | refine IsS92.far ?_ NB0_250.out _) | exact HI0.out))) : g ≠ gb255)); have NB255_0 := Aside0.mk ((by rw [hg]; exact Nat.ne_of_gt (IsS92.lt (show IsS92 w0 _ g s0_0 t254 from by repeat (first | (with_reducible first | exact HI0.out | apply IsS92.alloc | apply IsS92.drewN | apply IsS92.drew | apply IsS92.set_1 | refine IsS92.far ?_ NB0_250.out _) | exact HI0.out))) : gb255 ≠ g)); replace HI0 := Aside0.mk (IsS92.below (by repeat (first | (with_reducible first | exact HI0.out | apply IsS92.alloc | apply IsS92.drewN | apply IsS92.drew | apply IsS92.set_1 | refine IsS92.far ?_ NB0_250.out _) | exact HI0.out)) hb); clear hb hbox hg; have hnb9 := NB255_250.out; have hnc9 := NB250_255.out; have hnb10 := NB255_0.out; have hnc10 := NB0_255.out; have hcz11_0 : w8.cell? ⟨gb255, 0, none⟩ = some (.int .i64 0) := (blk_cell BK255.out 0).trans rfl; have hcz11_1 : w8.cell? ⟨gb255, 1, none⟩ = some (.int .i64 0) := (blk_cell BK255.out 1).trans rfl; have hcz11_2 : w8.cell? ⟨gb255, 2, none⟩ = some (.slice none 0 0) := (blk_cell BK255.out 2).trans rfl; have hfz11_0 := blk_frozen BK255.out 0; have hfz11_1 := blk_frozen BK255.out 1; have hfz11_2 := blk_frozen BK255.out 2))
 (try simp only [Act.put, List.setIfInBounds_toArray, List.set_cons_zero, List.set_cons_succ])
 go_cut [20] (fun v20 wc => ∃ (kq : Nat) (x20_3 : Bool) (x1001_3 : Int), v20 = .bool x20_3 ∧ Aside0 (spec_l1Rd_box.j0 kq x20_3 s0_0 x1001_3 (wrap64 (1 + t251)) (wrap64 (1 + t253)) = some (r1, r2, r3, r4)) ∧ Aside0 (kq ≤ k) ∧ Aside0 (wc.heap[gb250]? = some (.cells #[.int .i64 0, .int .i64 0, (.slice none 0 0)] 62 (0, 0))) ∧ Aside0 (wc.heap[gb255]? = some (.cells #[.int .i64 (wrap64 (1 + t251)), .int .i64 (wrap64 (1 + t253)), (.slice none 0 0)] 62 (0, 0))) ∧ Aside0 (IsS92 w0 wc g s0_0 x1001_3) ∧ Aside0 (KeepBut w wc g none) ∧ Aside0 (Below w0.heap.size w0 wc))
 case first =>
  have H := HC4.out; clear HC4
  by_cases c12 : (s0_0.length : Int) > 60
  ·rw [if_pos c12] at H
   have c12b0 : decide (60 < (s0_0.length : Int)) = true := decide_eq_true c12
   have c12b1 : decide (60 < s0_0.length) = true := decide_eq_true (by omega)
   clear c12
   (first | rw [c12b0] | (simp only [i64_w, i32_w]; rw [c12b0]) | skip)
   replace H := Option.bind_eq_some_iff.mp H
   obtain ⟨⟨t256, t257⟩, A130, H⟩ := H
   replace H : (spec_l1Rd_box.j0 k t256 s0_0 t257 (wrap64 (1 + t251)) (wrap64 (1 + t253))) = some (r1, r2, r3, r4) := H
   have A13 := Aside0.mk A130; clear A130; have H' := Aside0.mk H; clear H
   obtain ⟨ASz14_0, cSz14_0, HGz14, hgz14, HSz14_0⟩ := HI0.out
   have hcz14_0 := cellS92_0 HGz14; have hcz14_1 := cellS92_1 HGz14; have hfz14_1 := blk_frozen HGz14 1; clear HGz14 hgz14
   go_wp2_with (first | (go_at_call 67; (with_reducible refine (spec_l1Rd_once.calls g s0_0 t254 2 t256 t257 w0 _ ?side1 ?side2 A13.out).mono ?_); (case side1 => repeat (first | (with_reducible first | exact HI0.out | apply IsS92.alloc | apply IsS92.drewN | apply IsS92.drew | apply IsS92.set_1 | refine IsS92.far ?_ NB0_250.out _ | refine IsS92.far ?_ NB0_255.out _) | exact HI0.out)); (case side2 => repeat (first | (with_reducible first | exact HB.out | apply below_alloc | apply pw_below_drewN | apply below_drew1 | refine below_set ?_ (IsS92.ge HI0.out) | refine below_set ?_ GE250.out | refine below_set ?_ GE255.out) | exact HB.out)); rintro e w15 ⟨rfl, hi, hb, hk⟩; replace BK250 := Aside0.mk (KeepBut.blk hk (g' := gb250) (o := .cells #[.int .i64 0, .int .i64 0, .slice none 0 0] 62 (0, 0)) (bF_ BK250 NB250_255) NB250_0.out (by simp)); replace BK255 := Aside0.mk (KeepBut.blk hk (g' := gb255) (o := .cells #[.int .i64 (wrap64 (1 + t251)), .int .i64 (wrap64 (1 + t253)), .slice none 0 0] 62 (0, 0)) (by (with_reducible repeat (first | refine blk_drewN ?_ _ | refine blk_drew ?_ | refine blk_alloc ?_ _)); refine blk_put (cs := #[.int .i64 (wrap64 (1 + t251)), .int .i64 (wrap64 (1 + t253)), .slice none 0 0]) ?_ 2 _ rfl; (with_reducible repeat (first | refine blk_drewN ?_ _ | refine blk_drew ?_ | refine blk_alloc ?_ _)); refine blk_put (cs := #[.int .i64 (wrap64 (1 + t251)), .int .i64 0, .slice none 0 0]) ?_ 1 _ rfl; (with_reducible repeat (first | refine blk_drewN ?_ _ | refine blk_drew ?_ | refine blk_alloc ?_ _)); refine blk_put (cs := #[.int .i64 0, .int .i64 0, .slice none 0 0]) ?_ 0 _ rfl; exact bT_ BK255) NB255_0.out (by simp)); replace HK := Aside0.mk (KeepBut.trans (by repeat (first | (with_reducible first | exact HK.out | apply KeepBut.set_ | apply keep_drewN | apply keep_drew | apply keep_alloc | refine keep_far ?_ GW250.out _ | refine keep_far ?_ GW255.out _) | exact HK.out)) hk (.inl rfl)); replace HB := Aside0.mk (hb); replace HI0 := Aside0.mk (hi); (try clear hb); (try clear hb2); (try clear hk); (try clear hi)))
   go_meet
   case rel => exact ⟨_, (t256), (t257), (by first | rfl | (simp; done) | (simp [*]; done)), H', ⟨by first | omega | exact Nat.le_refl _⟩, ⟨by exact bT_ BK250⟩, ⟨by exact bT_ BK255⟩, ⟨by repeat (first | (with_reducible first | exact HI0.out | apply IsS92.alloc | apply IsS92.drewN | apply IsS92.drew | apply IsS92.set_1 | refine IsS92.far ?_ NB0_250.out _ | refine IsS92.far ?_ NB0_255.out _) | exact HI0.out)⟩, ⟨by repeat (first | (with_reducible first | exact HK.out | apply KeepBut.set_ | apply keep_drewN | apply keep_drew | apply keep_alloc | refine keep_far ?_ GW250.out _ | refine keep_far ?_ GW255.out _) | exact HK.out)⟩, ⟨by repeat (first | (with_reducible first | exact HB.out | apply below_alloc | apply pw_below_drewN | apply below_drew1 | refine below_set ?_ (IsS92.ge HI0.out) | refine below_set ?_ GE250.out | refine below_set ?_ GE255.out) | exact HB.out)⟩⟩
  ·rw [if_neg c12] at H
   have c12b0 : decide (60 < (s0_0.length : Int)) = false := decide_eq_false c12
   have c12b1 : decide (60 < s0_0.length) = false := decide_eq_false (by omega)
   clear c12
   (first | rw [c12b0] | (simp only [i64_w, i32_w]; rw [c12b0]) | skip)
   have H' := Aside0.mk H; clear H
   obtain ⟨ASz16_0, cSz16_0, HGz16, hgz16, HSz16_0⟩ := HI0.out
   have hcz16_0 := cellS92_0 HGz16; have hcz16_1 := cellS92_1 HGz16; have hfz16_1 := blk_frozen HGz16 1; clear HGz16 hgz16
   go_wp2
   go_meet
   case rel => exact ⟨_, (false), (t254), (by first | rfl | (simp; done) | (simp [*]; done)), H', ⟨by first | omega | exact Nat.le_refl _⟩, ⟨by (with_reducible repeat (first | refine blk_drewN ?_ _ | refine blk_drew ?_ | refine blk_alloc ?_ _)); refine blk_far ?_ NB250_255.out _; (with_reducible repeat (first | refine blk_drewN ?_ _ | refine blk_drew ?_ | refine blk_alloc ?_ _)); refine blk_far ?_ NB250_255.out _; (with_reducible repeat (first | refine blk_drewN ?_ _ | refine blk_drew ?_ | refine blk_alloc ?_ _)); refine blk_far ?_ NB250_255.out _; exact bT_ BK250⟩, ⟨by (with_reducible repeat (first | refine blk_drewN ?_ _ | refine blk_drew ?_ | refine blk_alloc ?_ _)); refine blk_put (cs := #[.int .i64 (wrap64 (1 + t251)), .int .i64 (wrap64 (1 + t253)), .slice none 0 0]) ?_ 2 _ rfl; (with_reducible repeat (first | refine blk_drewN ?_ _ | refine blk_drew ?_ | refine blk_alloc ?_ _)); refine blk_put (cs := #[.int .i64 (wrap64 (1 + t251)), .int .i64 0, .slice none 0 0]) ?_ 1 _ rfl; (with_reducible repeat (first | refine blk_drewN ?_ _ | refine blk_drew ?_ | refine blk_alloc ?_ _)); refine blk_put (cs := #[.int .i64 0, .int .i64 0, .slice none 0 0]) ?_ 0 _ rfl; exact bT_ BK255⟩, ⟨by repeat (first | (with_reducible first | exact HI0.out | apply IsS92.alloc | apply IsS92.drewN | apply IsS92.drew | apply IsS92.set_1 | refine IsS92.far ?_ NB0_250.out _ | refine IsS92.far ?_ NB0_255.out _) | exact HI0.out)⟩, ⟨by repeat (first | (with_reducible first | exact HK.out | apply KeepBut.set_ | apply keep_drewN | apply keep_drew | apply keep_alloc | refine keep_far ?_ GW250.out _ | refine keep_far ?_ GW255.out _) | exact HK.out)⟩, ⟨by repeat (first | (with_reducible first | exact HB.out | apply below_alloc | apply pw_below_drewN | apply below_drew1 | refine below_set ?_ (IsS92.ge HI0.out) | refine below_set ?_ GE250.out | refine below_set ?_ GE255.out) | exact HB.out)⟩⟩
 case rest =>
  clear HC4; (try clear c1); (try clear p2); (try clear c5); (try clear c6); (try clear p6); (try clear c9); (try clear c10); (try clear c12); (try clear c12b0); (try clear c12b1); (try clear hcz11_0); (try clear hcz11_1); (try clear hcz11_2); (try clear hcz14_0); (try clear hcz14_1); (try clear hcz16_0); (try clear hcz16_1); (try clear hfz11_0); (try clear hfz11_1); (try clear hfz11_2); (try clear hfz14_1); (try clear hfz16_1)
  obtain ⟨kq, x20_3, x1001_3, rfl, HA, HJ3, BK250, BK255, HI0, HK, HB⟩ := hcut
  cases kq with
  | zero => exact absurd HA.out (by simp [spec_l1Rd_box.j0])
  | succ kj3 =>
   have H := HA.out; clear HA
   simp only [spec_l1Rd_box.j0] at H
   have HC17 := Aside0.mk H; clear H
   go_upto_if 20 with (fail)
   go_cut [] (fun wc => ∃ (kq : Nat) (x1001_16 : Int) (x256000_16 : Int) (x256001_16 : Int), Aside0 (spec_l1Rd_box.j1 kq s0_0 x1001_16 x256000_16 x256001_16 = some (r1, r2, r3, r4)) ∧ Aside0 (kq ≤ kj3) ∧ Aside0 (wc.heap[gb250]? = some (.cells #[.int .i64 0, .int .i64 0, (.slice none 0 0)] 62 (0, 0))) ∧ Aside0 (wc.heap[gb255]? = some (.cells #[.int .i64 x256000_16, .int .i64 x256001_16, (.slice none 0 0)] 62 (0, 0))) ∧ Aside0 (IsS92 w0 wc g s0_0 x1001_16) ∧ Aside0 (KeepBut w wc g none) ∧ Aside0 (Below w0.heap.size w0 wc))
   case first =>
    have H := HC17.out; clear HC17
    by_cases c18 : x20_3 = true
    ·subst c18
     have H1 : ((spec_l1Rd_below.f s0_0 x1001_3 5).bind fun bt258 => ((spec_l1Rd_below.f s0_0 bt258.2 5).bind fun bt260 => (spec_l1Rd_box.j1 kj3 s0_0 bt260.2 (wrap64 ((wrap64 (1 + t251)) + bt258.1)) (wrap64 ((wrap64 (1 + t253)) + bt260.1))))) = some (r1, r2, r3, r4) := by rw [if_pos rfl] at H; exact H
     clear H; have H := H1; clear H1; replace H := Option.bind_eq_some_iff.mp H
     obtain ⟨⟨t258, t259⟩, A190, H⟩ := H
     replace H : ((spec_l1Rd_below.f s0_0 t259 5).bind fun bt260 => (spec_l1Rd_box.j1 kj3 s0_0 bt260.2 (wrap64 ((wrap64 (1 + t251)) + t258)) (wrap64 ((wrap64 (1 + t253)) + bt260.1)))) = some (r1, r2, r3, r4) := H
     have A19 := Aside0.mk A190; clear A190; replace H := Option.bind_eq_some_iff.mp H
     obtain ⟨⟨t260, t261⟩, A200, H⟩ := H
     replace H : (spec_l1Rd_box.j1 kj3 s0_0 t261 (wrap64 ((wrap64 (1 + t251)) + t258)) (wrap64 ((wrap64 (1 + t253)) + t260))) = some (r1, r2, r3, r4) := H
     have A20 := Aside0.mk A200; clear A200; have H' := Aside0.mk H; clear H
     try go_wp2
     replace BK250 := Aside0.mk (blk_drew BK250.out)
     replace BK255 := Aside0.mk (blk_drew BK255.out)
     replace HI0 := Aside0.mk (IsS92.drew HI0.out)
     replace HK := Aside0.mk (keep_drew HK.out)
     replace HB := Aside0.mk (below_drew1 HB.out)
     refine start_ (n := 7) (S := fun w' => w'.cell? ⟨gb255, 0, none⟩ = some (.int .i64 (wrap64 (1 + t251))) ∧ w'.cell? ⟨gb255, 1, none⟩ = some (.int .i64 (wrap64 (1 + t253))) ∧ w'.cell? ⟨gb255, 2, none⟩ = some (.slice none 0 0)) (ds := [6]) #[false, false, false, false, false, false, false] (by kernel_rfl) rfl rfl ⟨(blk_cell BK255.out 0).trans rfl, (blk_cell BK255.out 1).trans rfl, (blk_cell BK255.out 2).trans rfl⟩ (fun hHeld => ?_)
     generalize wc.drew = w21 at BK250 BK255 HI0 HK HB hHeld ⊢
     refine pB_ 0 (some 21) #[true, false, false, false, false, false, false] ?_
     refine pB_ 2 (some 23) #[true, false, true, false, false, false, false] ?_
     refine tB_ 1 (some 22) #[true, true, true, false, false, false, false] hHeld ?_ (hy := by rintro w' ⟨s0, s1, s2⟩; go_simp; with_reducible rfl)
     refine one_ (i := 3) (N := some 24) #[true, true, true, true, false, false, false] rfl rfl (by kernel_rfl) (by decide) (fun K hK => ?_)
     refine goes_ Try.func53 (by kernel_rfl) rfl #[.pointer (some ⟨g, 0, none⟩), .int .i64 5] (by rfl) rfl rfl (by (try simp only [List.map_toArray, List.map_cons, List.map_nil]); first | done | rfl | (simp only [List.length_drop, List.length_take]; rfl)) ?_
     with_reducible refine (spec_l1Rd_below.calls g s0_0 x1001_3 5 t258 t259 w0 _ ?side1 ?side2 A19.out).mono ?_
     (case side1 => repeat (first | (with_reducible first | exact HI0.out | apply IsS92.alloc | apply IsS92.drewN | apply IsS92.drew | apply IsS92.set_1 | refine IsS92.far ?_ NB0_250.out _ | refine IsS92.far ?_ NB0_255.out _) | exact HI0.out))
     (case side2 => repeat (first | (with_reducible first | exact HB.out | apply below_alloc | apply pw_below_drewN | apply below_drew1 | refine below_set ?_ (IsS92.ge HI0.out) | refine below_set ?_ GE250.out | refine below_set ?_ GE255.out) | exact HB.out))
     rintro e w22 ⟨rfl, hi, hb, hk⟩
     refine ⟨_, rfl, ?_⟩
     replace BK250 := Aside0.mk (KeepBut.blk hk (g' := gb250) (o := .cells #[.int .i64 0, .int .i64 0, .slice none 0 0] 62 (0, 0)) (bT_ BK250) NB250_0.out (by simp))
     replace BK255 := Aside0.mk (KeepBut.blk hk (g' := gb255) (o := .cells #[.int .i64 (wrap64 (1 + t251)), .int .i64 (wrap64 (1 + t253)), .slice none 0 0] 62 (0, 0)) (bT_ BK255) NB255_0.out (by simp))
     replace HK := Aside0.mk (KeepBut.trans (by repeat (first | (with_reducible first | exact HK.out | apply KeepBut.set_ | apply keep_drewN | apply keep_drew | apply keep_alloc | refine keep_far ?_ GW250.out _ | refine keep_far ?_ GW255.out _) | exact HK.out)) hk (.inl rfl))
     replace HB := Aside0.mk (hb)
     replace HI0 := Aside0.mk (hi)
     (try clear hb); (try clear hb2); (try clear hk); (try clear hi)
     refine hK.out _ _ ⟨(blk_cell BK255.out 0).trans rfl, (blk_cell BK255.out 1).trans rfl, (blk_cell BK255.out 2).trans rfl⟩ (fun hHeld => ?_)
     clear hK K
     refine nS_ (some 24) ?_
     refine pB_ 4 (some 25) #[true, true, true, true, true, false, false] ?_
     refine pB_ 5 (some 26) #[true, true, true, true, true, true, false] ?_
     refine last_ (i := 6) (N := none) #[true, true, true, true, true, true, true] rfl rfl (by kernel_rfl) (by decide) (fun K hK => ?_)
     have hs23 : w22.cell? ⟨gb255, 0, none⟩ = some (.int .i64 (wrap64 (1 + t251))) := (blk_cell BK255.out 0).trans rfl
     have hfs23 := blk_frozen BK255.out 0; have hns23_0 := NB250_255.out; have hms23_0 := NB255_250.out
     refine skip_ (w1 := ?_) (by rfl) rfl ?_ ?_
     rotate_left
     ·go_simp
      rfl
     refine hK.out _ _ ?_
     clear hK K
     refine done_ (by kernel_rfl) ?_
     try go_wp2
     have n0_ : Aside0 ((w22.setCell ⟨gb255, 0, none⟩ (.int .i64 (wrap64 ((wrap64 (1 + t251)) + t258)))).heap[gb250]? = some (.cells #[.int .i64 0, .int .i64 0, .slice none 0 0] 62 (0, 0))) := ⟨by (with_reducible repeat (first | refine blk_drewN ?_ _ | refine blk_drew ?_ | refine blk_alloc ?_ _)); refine blk_far ?_ NB250_255.out _; exact bT_ BK250⟩
     have n1_ : Aside0 ((w22.setCell ⟨gb255, 0, none⟩ (.int .i64 (wrap64 ((wrap64 (1 + t251)) + t258)))).heap[gb255]? = some (.cells #[.int .i64 (wrap64 ((wrap64 (1 + t251)) + t258)), .int .i64 (wrap64 (1 + t253)), .slice none 0 0] 62 (0, 0))) := ⟨by (with_reducible repeat (first | refine blk_drewN ?_ _ | refine blk_drew ?_ | refine blk_alloc ?_ _)); refine blk_put (cs := #[.int .i64 (wrap64 (1 + t251)), .int .i64 (wrap64 (1 + t253)), .slice none 0 0]) ?_ 0 _ rfl; exact bT_ BK255⟩
     have n2_ : Aside0 (IsS92 w0 (w22.setCell ⟨gb255, 0, none⟩ (.int .i64 (wrap64 ((wrap64 (1 + t251)) + t258)))) g s0_0 t259) := ⟨by repeat (first | (with_reducible first | exact HI0.out | apply IsS92.alloc | apply IsS92.drewN | apply IsS92.drew | apply IsS92.set_1 | refine IsS92.far ?_ NB0_250.out _ | refine IsS92.far ?_ NB0_255.out _) | exact HI0.out)⟩
     have n3_ : Aside0 (KeepBut w (w22.setCell ⟨gb255, 0, none⟩ (.int .i64 (wrap64 ((wrap64 (1 + t251)) + t258)))) g none) := ⟨by repeat (first | (with_reducible first | exact HK.out | apply KeepBut.set_ | apply keep_drewN | apply keep_drew | apply keep_alloc | refine keep_far ?_ GW250.out _ | refine keep_far ?_ GW255.out _) | exact HK.out)⟩
     have n4_ : Aside0 (Below w0.heap.size w0 (w22.setCell ⟨gb255, 0, none⟩ (.int .i64 (wrap64 ((wrap64 (1 + t251)) + t258))))) := ⟨by repeat (first | (with_reducible first | exact HB.out | apply below_alloc | apply pw_below_drewN | apply below_drew1 | refine below_set ?_ (IsS92.ge HI0.out) | refine below_set ?_ GE250.out | refine below_set ?_ GE255.out) | exact HB.out)⟩
     (try clear BK250); (try clear BK255); (try clear HI0); (try clear HK); (try clear HB)
     generalize (w22.setCell ⟨gb255, 0, none⟩ (.int .i64 (wrap64 ((wrap64 (1 + t251)) + t258)))) = w24 at n0_ n1_ n2_ n3_ n4_ ⊢
     have BK250 := n0_; have BK255 := n1_; have HI0 := n2_; have HK := n3_; have HB := n4_; clear n0_ n1_ n2_ n3_ n4_
     replace BK250 := Aside0.mk (blk_drew BK250.out)
     replace BK255 := Aside0.mk (blk_drew BK255.out)
     replace HI0 := Aside0.mk (IsS92.drew HI0.out)
     replace HK := Aside0.mk (keep_drew HK.out)
     replace HB := Aside0.mk (below_drew1 HB.out)
     refine start_ (n := 7) (S := fun w' => w'.cell? ⟨gb255, 0, none⟩ = some (.int .i64 (wrap64 ((wrap64 (1 + t251)) + t258))) ∧ w'.cell? ⟨gb255, 1, none⟩ = some (.int .i64 (wrap64 (1 + t253))) ∧ w'.cell? ⟨gb255, 2, none⟩ = some (.slice none 0 0)) (ds := [6]) #[false, false, false, false, false, false, false] (by kernel_rfl) rfl rfl ⟨(blk_cell BK255.out 0).trans rfl, (blk_cell BK255.out 1).trans rfl, (blk_cell BK255.out 2).trans rfl⟩ (fun hHeld => ?_)
     generalize w24.drew = w25 at BK250 BK255 HI0 HK HB hHeld ⊢
     refine pB_ 0 (some 27) #[true, false, false, false, false, false, false] ?_
     refine pB_ 2 (some 29) #[true, false, true, false, false, false, false] ?_
     refine tB_ 1 (some 28) #[true, true, true, false, false, false, false] hHeld ?_ (hy := by rintro w' ⟨s0, s1, s2⟩; go_simp; with_reducible rfl)
     refine one_ (i := 3) (N := some 30) #[true, true, true, true, false, false, false] rfl rfl (by kernel_rfl) (by decide) (fun K hK => ?_)
     refine goes_ Try.func53 (by kernel_rfl) rfl #[.pointer (some ⟨g, 0, none⟩), .int .i64 5] (by rfl) rfl rfl (by (try simp only [List.map_toArray, List.map_cons, List.map_nil]); first | done | rfl | (simp only [List.length_drop, List.length_take]; rfl)) ?_
     with_reducible refine (spec_l1Rd_below.calls g s0_0 t259 5 t260 t261 w0 _ ?side1 ?side2 A20.out).mono ?_
     (case side1 => repeat (first | (with_reducible first | exact HI0.out | apply IsS92.alloc | apply IsS92.drewN | apply IsS92.drew | apply IsS92.set_1 | refine IsS92.far ?_ NB0_250.out _ | refine IsS92.far ?_ NB0_255.out _) | exact HI0.out))
     (case side2 => repeat (first | (with_reducible first | exact HB.out | apply below_alloc | apply pw_below_drewN | apply below_drew1 | refine below_set ?_ (IsS92.ge HI0.out) | refine below_set ?_ GE250.out | refine below_set ?_ GE255.out) | exact HB.out))
     rintro e w26 ⟨rfl, hi, hb, hk⟩
     refine ⟨_, rfl, ?_⟩
     replace BK250 := Aside0.mk (KeepBut.blk hk (g' := gb250) (o := .cells #[.int .i64 0, .int .i64 0, .slice none 0 0] 62 (0, 0)) (bT_ BK250) NB250_0.out (by simp))
     replace BK255 := Aside0.mk (KeepBut.blk hk (g' := gb255) (o := .cells #[.int .i64 (wrap64 ((wrap64 (1 + t251)) + t258)), .int .i64 (wrap64 (1 + t253)), .slice none 0 0] 62 (0, 0)) (bT_ BK255) NB255_0.out (by simp))
     replace HK := Aside0.mk (KeepBut.trans (by repeat (first | (with_reducible first | exact HK.out | apply KeepBut.set_ | apply keep_drewN | apply keep_drew | apply keep_alloc | refine keep_far ?_ GW250.out _ | refine keep_far ?_ GW255.out _) | exact HK.out)) hk (.inl rfl))
     replace HB := Aside0.mk (hb)
     replace HI0 := Aside0.mk (hi)
     (try clear hb); (try clear hb2); (try clear hk); (try clear hi)
     refine hK.out _ _ ⟨(blk_cell BK255.out 0).trans rfl, (blk_cell BK255.out 1).trans rfl, (blk_cell BK255.out 2).trans rfl⟩ (fun hHeld => ?_)
     clear hK K
     refine nS_ (some 30) ?_
     refine pB_ 4 (some 31) #[true, true, true, true, true, false, false] ?_
     refine pB_ 5 (some 32) #[true, true, true, true, true, true, false] ?_
     refine last_ (i := 6) (N := none) #[true, true, true, true, true, true, true] rfl rfl (by kernel_rfl) (by decide) (fun K hK => ?_)
     have hs27 : w26.cell? ⟨gb255, 1, none⟩ = some (.int .i64 (wrap64 (1 + t253))) := (blk_cell BK255.out 1).trans rfl
     have hfs27 := blk_frozen BK255.out 1; have hns27_0 := NB250_255.out; have hms27_0 := NB255_250.out
     refine skip_ (w1 := ?_) (by rfl) rfl ?_ ?_
     rotate_left
     ·go_simp
      rfl
     refine hK.out _ _ ?_
     clear hK K
     refine done_ (by kernel_rfl) ?_
     try go_wp2
     go_meet
     case rel => exact ⟨_, (t261), (wrap64 ((wrap64 (1 + t251)) + t258)), (wrap64 ((wrap64 (1 + t253)) + t260)), H', ⟨by have := HJ3.out; first | omega | exact Nat.le_refl _⟩, ⟨by (with_reducible repeat (first | refine blk_drewN ?_ _ | refine blk_drew ?_ | refine blk_alloc ?_ _)); refine blk_far ?_ NB250_255.out _; exact bT_ BK250⟩, ⟨by (with_reducible repeat (first | refine blk_drewN ?_ _ | refine blk_drew ?_ | refine blk_alloc ?_ _)); refine blk_put (cs := #[.int .i64 (wrap64 ((wrap64 (1 + t251)) + t258)), .int .i64 (wrap64 (1 + t253)), .slice none 0 0]) ?_ 1 _ rfl; exact bT_ BK255⟩, ⟨by repeat (first | (with_reducible first | exact HI0.out | apply IsS92.alloc | apply IsS92.drewN | apply IsS92.drew | apply IsS92.set_1 | refine IsS92.far ?_ NB0_250.out _ | refine IsS92.far ?_ NB0_255.out _) | exact HI0.out)⟩, ⟨by repeat (first | (with_reducible first | exact HK.out | apply KeepBut.set_ | apply keep_drewN | apply keep_drew | apply keep_alloc | refine keep_far ?_ GW250.out _ | refine keep_far ?_ GW255.out _) | exact HK.out)⟩, ⟨by repeat (first | (with_reducible first | exact HB.out | apply below_alloc | apply pw_below_drewN | apply below_drew1 | refine below_set ?_ (IsS92.ge HI0.out) | refine below_set ?_ GE250.out | refine below_set ?_ GE255.out) | exact HB.out)⟩⟩
    ·replace c18 := Bool.eq_false_iff.mpr c18
     subst c18
     have H1 : (spec_l1Rd_box.j1 kj3 s0_0 x1001_3 (wrap64 (1 + t251)) (wrap64 (1 + t253))) = some (r1, r2, r3, r4) := by rw [if_neg (show ¬ (false = true) by decide)] at H; exact H
     clear H; have H := H1; clear H1; have H' := Aside0.mk H; clear H
     go_wp2
     go_meet
     case rel => exact ⟨_, (x1001_3), ((wrap64 (1 + t251))), ((wrap64 (1 + t253))), H', ⟨by have := HJ3.out; first | omega | exact Nat.le_refl _⟩, ⟨by exact bT_ BK250⟩, ⟨by exact bT_ BK255⟩, ⟨by repeat (first | (with_reducible first | exact HI0.out | apply IsS92.alloc | apply IsS92.drewN | apply IsS92.drew | apply IsS92.set_1 | refine IsS92.far ?_ NB0_250.out _ | refine IsS92.far ?_ NB0_255.out _) | exact HI0.out)⟩, ⟨by repeat (first | (with_reducible first | exact HK.out | apply KeepBut.set_ | apply keep_drewN | apply keep_drew | apply keep_alloc | refine keep_far ?_ GW250.out _ | refine keep_far ?_ GW255.out _) | exact HK.out)⟩, ⟨by repeat (first | (with_reducible first | exact HB.out | apply below_alloc | apply pw_below_drewN | apply below_drew1 | refine below_set ?_ (IsS92.ge HI0.out) | refine below_set ?_ GE250.out | refine below_set ?_ GE255.out) | exact HB.out)⟩⟩
   case rest =>
    clear HC17; (try clear c1); (try clear p2); (try clear c5); (try clear c6); (try clear p6); (try clear c9); (try clear c10); (try clear c12); (try clear c12b0); (try clear c12b1); (try clear c18); (try clear hcz11_0); (try clear hcz11_1); (try clear hcz11_2); (try clear hcz14_0); (try clear hcz14_1); (try clear hcz16_0); (try clear hcz16_1); (try clear hfz11_0); (try clear hfz11_1); (try clear hfz11_2); (try clear hfz14_1); (try clear hfz16_1); (try clear p2); (try clear p6)
    obtain ⟨kq, x1001_16, x256000_16, x256001_16, HA, HJ16, BK250, BK255, HI0, HK, HB⟩ := hcut
    cases kq with
    | zero => exact absurd HA.out (by simp [spec_l1Rd_box.j1])
    | succ kj16 =>
     have H := HA.out; clear HA
     simp only [spec_l1Rd_box.j1] at H
     have H' := Aside0.mk H; clear H
     go_wp2
     go_loopg [] kj16 (fun kq w' => ∃ (x1001_3 : Int) (x256002_3 : List Int) (u256002 : Value), Aside0 (spec_l1Rd_box.l0 kq s0_0 x1001_3 x256000_16 x256001_16 x256002_3 = some (r1, r2, r3, r4)) ∧ Aside0 (kq ≤ kj16) ∧ Aside0 (Kd.R (Kd.int .i64) 2 w' w.heap.size (fun _ => True) u256002 x256002_3) ∧ Aside0 (w'.heap[gb250]? = some (.cells #[.int .i64 0, .int .i64 0, (.slice none 0 0)] 62 (0, 0))) ∧ Aside0 (w'.heap[gb255]? = some (.cells #[.int .i64 x256000_16, .int .i64 x256001_16, u256002] 62 (0, 0))) ∧ Aside0 (IsS92 w0 w' g s0_0 x1001_3) ∧ Aside0 (KeepBut w w' g none) ∧ Aside0 (Below w0.heap.size w0 w'))
     case atStart => exact ⟨(x1001_16), (([] : List Int)), (.slice none 0 0), H', ⟨Nat.le_refl _⟩, ⟨by first | exact Kd.R_nil _ _ _ _ _ | exact Kd.N_nil _ _ _ _ _ | exact Kd.V_nil _ _ _ _ _ | exact Kd.Q_nil _ _ _ _ _ | exact Kd.S_nil _ _ _ _ _⟩, ⟨by exact bT_ BK250⟩, ⟨by exact bT_ BK255⟩, ⟨by repeat (first | (with_reducible first | exact HI0.out | apply IsS92.alloc | apply IsS92.drewN | apply IsS92.drew | apply IsS92.set_1 | refine IsS92.far ?_ NB0_250.out _ | refine IsS92.far ?_ NB0_255.out _) | exact HI0.out)⟩, ⟨by repeat (first | (with_reducible first | exact HK.out | apply KeepBut.set_ | apply keep_drewN | apply keep_drew | apply keep_alloc | refine keep_far ?_ GW250.out _ | refine keep_far ?_ GW255.out _) | exact HK.out)⟩, ⟨by repeat (first | (with_reducible first | exact HB.out | apply below_alloc | apply pw_below_drewN | apply below_drew1 | refine below_set ?_ (IsS92.ge HI0.out) | refine below_set ?_ GE250.out | refine below_set ?_ GE255.out) | exact HB.out)⟩⟩
     case round =>
      clear H'; (try clear c1); (try clear p2); (try clear c5); (try clear c6); (try clear p6); (try clear c9); (try clear c10); (try clear c12); (try clear c12b0); (try clear c12b1); (try clear c18); (try clear hcz11_0); (try clear hcz11_1); (try clear hcz11_2); (try clear hcz14_0); (try clear hcz14_1); (try clear hcz16_0); (try clear hcz16_1); (try clear hfz11_0); (try clear hfz11_1); (try clear hfz11_2); (try clear hfz14_1); (try clear hfz16_1); (try clear p2); (try clear p6)
      obtain ⟨x1001_3, x256002_3, u256002, HA, HK3, HO_256002, BK250, BK255, HI0, HK, HB⟩ := hrel
      cases gk with
      | zero => exact absurd HA.out (by simp [spec_l1Rd_box.l0])
      | succ k3 =>
       have H := HA.out; clear HA
       simp only [spec_l1Rd_box.l0] at H
       by_cases c28 : (x256002_3.length : Int) < (wrap64 (x256000_16 * x256001_16))
       ·rw [if_pos c28] at H
        have c28b0 : decide ((x256002_3.length : Int) < (wrap64 (x256000_16 * x256001_16))) = true := decide_eq_true c28
        clear c28; replace H := Option.bind_eq_some_iff.mp H
        obtain ⟨⟨t262, t263⟩, A290, H⟩ := H
        replace H : (if x256002_3.length < 17592186044416 then (spec_l1Rd_box.l0 k3 s0_0 t263 x256000_16 x256001_16 (x256002_3 ++ [t262])) else (none)) = some (r1, r2, r3, r4) := H
        have A29 := Aside0.mk A290; clear A290
        by_cases c30 : x256002_3.length < 17592186044416
        ·rw [if_pos c30] at H
         have LMc30 := Aside0.mk c30; clear c30
         obtain ⟨y264, hy264⟩ : ∃ y_ : List Int, y_ = (x256002_3 ++ [t262]) := ⟨_, rfl⟩
         replace H : (spec_l1Rd_box.l0 k3 s0_0 t263 x256000_16 x256001_16 y264) = some (r1, r2, r3, r4) := by first | (rw [hy264]; with_reducible exact H) | (have H2_ := (Option.bind_some _ _).symm.trans H; rw [hy264]; with_reducible exact H2_) | (have H2_ := (Option.bind_some _ _).symm.trans H; with_reducible exact H2_) | with_reducible exact H | (rw [hy264]; exact H) | exact H
         have Ny264 := Aside0.mk hy264; clear hy264; have H' := Aside0.mk H; clear H; have hnb31 := NB255_250.out; have hnc31 := NB250_255.out; have hnb32 := NB255_0.out; have hnc32 := NB0_255.out
         have hcz33_0 : wr.cell? ⟨gb255, 0, none⟩ = some (.int .i64 x256000_16) := (blk_cell BK255.out 0).trans rfl
         have hcz33_1 : wr.cell? ⟨gb255, 1, none⟩ = some (.int .i64 x256001_16) := (blk_cell BK255.out 1).trans rfl
         have hcz33_2 : wr.cell? ⟨gb255, 2, none⟩ = some (u256002) := (blk_cell BK255.out 2).trans rfl
         have hfz33_0 := blk_frozen BK255.out 0; have hfz33_1 := blk_frozen BK255.out 1; have hfz33_2 := blk_frozen BK255.out 2
         obtain ⟨Ao34, co34, eo34⟩ := Kd.R_slice HO_256002.out
         subst eo34
         try go_wp2
         replace HO_256002 := Aside0.mk (Kd.R_drew HO_256002.out)
         replace BK250 := Aside0.mk (blk_drew BK250.out)
         replace BK255 := Aside0.mk (blk_drew BK255.out)
         replace HI0 := Aside0.mk (IsS92.drew HI0.out)
         replace HK := Aside0.mk (keep_drew HK.out)
         replace HB := Aside0.mk (below_drew1 HB.out)
         refine start_ (n := 8) (S := fun w' => w'.cell? ⟨gb255, 0, none⟩ = some (.int .i64 x256000_16) ∧ w'.cell? ⟨gb255, 1, none⟩ = some (.int .i64 x256001_16) ∧ w'.cell? ⟨gb255, 2, none⟩ = some (.slice Ao34 x256002_3.length co34)) (ds := [7]) #[false, false, false, false, false, false, false, false] (by kernel_rfl) rfl rfl ⟨(blk_cell BK255.out 0).trans rfl, (blk_cell BK255.out 1).trans rfl, (blk_cell BK255.out 2).trans rfl⟩ (fun hHeld => ?_); refine with_tabW spec_l1Rd_box.tab6 spec_l1Rd_box.bits6 (fun HT_ HW_ => ?_)
         generalize wr.drew = w35 at HO_256002 BK250 BK255 HI0 HK HB hHeld ⊢
         refine pT_ 0 (some 42) #[true, false, false, false, false, false, false, false] HT_ ?_
         refine pT_ 2 (some 44) #[true, false, true, false, false, false, false, false] HT_ ?_
         refine tT_ 1 (some 43) #[true, true, true, false, false, false, false, false] HT_ HW_ hHeld ?_ (hy := by rintro w' ⟨s0, s1, s2⟩; go_simp; with_reducible rfl)
         refine one_ (i := 3) (N := some 45) #[true, true, true, true, false, false, false, false] rfl rfl (one_of HT_.out (by kernel_rfl)) (by decide) (fun K hK => ?_)
         refine goes_ Try.func53 (by kernel_rfl) rfl #[.pointer (some ⟨g, 0, none⟩), .int .i64 9] (by rfl) rfl rfl (by (try simp only [List.map_toArray, List.map_cons, List.map_nil]); first | done | rfl | (simp only [List.length_drop, List.length_take]; rfl)) ?_
         with_reducible refine (spec_l1Rd_below.calls g s0_0 x1001_3 9 t262 t263 w0 _ ?side1 ?side2 A29.out).mono ?_
         (case side1 => repeat (first | (with_reducible first | exact HI0.out | apply IsS92.alloc | apply IsS92.drewN | apply IsS92.drew | apply IsS92.set_1 | refine IsS92.far ?_ NB0_250.out _ | refine IsS92.far ?_ NB0_255.out _) | exact HI0.out))
         (case side2 => repeat (first | (with_reducible first | exact HB.out | apply below_alloc | apply pw_below_drewN | apply below_drew1 | refine below_set ?_ (IsS92.ge HI0.out) | refine below_set ?_ GE250.out | refine below_set ?_ GE255.out) | exact HB.out))
         rintro e w36 ⟨rfl, hi, hb, hk⟩
         refine ⟨_, rfl, ?_⟩
         replace HO_256002 := Aside0.mk (Kd.R_mono (Kd.R_keep (IsS92.apart (show IsS92 w0 _ g s0_0 x1001_3 from by repeat (first | (with_reducible first | exact HI0.out | apply IsS92.alloc | apply IsS92.drewN | apply IsS92.drew | apply IsS92.set_1 | refine IsS92.far ?_ NB0_250.out _ | refine IsS92.far ?_ NB0_255.out _) | exact HI0.out)) (rT_ HO_256002) (by decide)) hk (fun _ h => h.2)) (fun _ h => h.1))
         replace BK250 := Aside0.mk (KeepBut.blk hk (g' := gb250) (o := .cells #[.int .i64 0, .int .i64 0, .slice none 0 0] 62 (0, 0)) (bT_ BK250) NB250_0.out (by simp))
         replace BK255 := Aside0.mk (KeepBut.blk hk (g' := gb255) (o := .cells #[.int .i64 x256000_16, .int .i64 x256001_16, .slice Ao34 x256002_3.length co34] 62 (0, 0)) (bT_ BK255) NB255_0.out (by simp))
         replace HK := Aside0.mk (KeepBut.trans (by repeat (first | (with_reducible first | exact HK.out | apply KeepBut.set_ | apply keep_drewN | apply keep_drew | apply keep_alloc | refine keep_far ?_ GW250.out _ | refine keep_far ?_ GW255.out _) | exact HK.out)) hk (.inl rfl))
         replace HB := Aside0.mk (hb)
         replace HI0 := Aside0.mk (hi)
         (try clear hb); (try clear hb2); (try clear hk); (try clear hi)
         refine hK.out _ _ ⟨(blk_cell BK255.out 0).trans rfl, (blk_cell BK255.out 1).trans rfl, (blk_cell BK255.out 2).trans rfl⟩ (fun hHeld => ?_)
         clear hK K
         refine nS_ (some 45) ?_
         refine one_ (i := 4) (N := some 46) #[true, true, true, true, true, false, false, false] rfl rfl (one_of HT_.out (by kernel_rfl)) (by decide) (fun K hK => ?_)
         refine value_ (w1 := ?_) (v := ?_) (by rfl) rfl ?_ ?_
         rotate_left 2
         ·go_simp
          constructor
          ·rfl
          ·rfl
         refine hK.out _ _ ⟨(blk_cell (blk_alloc BK255.out _) 0).trans rfl, (blk_cell (blk_alloc BK255.out _) 1).trans rfl, (blk_cell (blk_alloc BK255.out _) 2).trans rfl⟩ (fun hHeld => ?_)
         clear hK K
         refine nS_ (some 46) ?_
         refine one_ (i := 5) (N := some 47) #[true, true, true, true, true, true, false, false] rfl rfl (one_of HT_.out (by kernel_rfl)) (by decide) (fun K hK => ?_)
         refine Kd.R_append_step (Kd.int .i64) w.heap.size (by rfl) (.tmp 43) (.tmp 46) 22 2 (.int .i64 0) 8 rfl Try.underlying22 info2 rfl (by decide) (by omega) (.slice Ao34 x256002_3.length co34) x256002_3 t262 [.int .i64 t262] (fun _ => True) (fun _ => False) rfl rfl ?aP (fun _ hk => hk.elim) ?aF ?aO (Below.refl _ _) ?aS ?aL ?_
         (case aP => exact rfl)
         (case aF => exact (fun _ _ => trivial))
         (case aO => exact (rT_ HO_256002))
         (case aS => exact (keep_size (w := w) (g := g) (row := none) (by repeat (first | (with_reducible first | exact HK.out | apply KeepBut.set_ | apply keep_drewN | apply keep_drew | apply keep_alloc | refine keep_far ?_ GW250.out _ | refine keep_far ?_ GW255.out _) | exact HK.out))))
         (case aL => have := LMc30.out; omega)
         intro v265 w37 ho hb hg hat
         rw [← Ny264.out] at ho
         replace BK250 := Aside0.mk (blk_grown (g := gb250) (o := .cells #[.int .i64 0, .int .i64 0, .slice none 0 0] 62 (0, 0)) (bT_ BK250) hg (Kd.R_ne HO_256002.out BK250.out (by decide)))
         replace BK255 := Aside0.mk (blk_grown (g := gb255) (o := .cells #[.int .i64 x256000_16, .int .i64 x256001_16, .slice Ao34 x256002_3.length co34] 62 (0, 0)) (bT_ BK255) hg (Kd.R_ne HO_256002.out BK255.out (by decide)))
         replace HB := Aside0.mk (below_weaken (by repeat (first | (with_reducible first | exact HB.out | apply below_alloc | apply pw_below_drewN | apply below_drew1 | refine below_set ?_ (IsS92.ge HI0.out) | refine below_set ?_ GE250.out | refine below_set ?_ GE255.out) | exact HB.out)) HL.out hb)
         replace HI0 := Aside0.mk (IsS92.grown (by repeat (first | (with_reducible first | exact HI0.out | apply IsS92.alloc | apply IsS92.drewN | apply IsS92.drew | apply IsS92.set_1 | refine IsS92.far ?_ NB0_250.out _ | refine IsS92.far ?_ NB0_255.out _) | exact HI0.out)) hg (IsS92.own_ne HI0.out HO_256002.out (by decide)))
         replace HK := Aside0.mk (KeepBut.trans (by repeat (first | (with_reducible first | exact HK.out | apply KeepBut.set_ | apply keep_drewN | apply keep_drew | apply keep_alloc | refine keep_far ?_ GW250.out _ | refine keep_far ?_ GW255.out _) | exact HK.out)) (KeepBut.of_grown hg g) (Kd.R_base2 HO_256002.out))
         have HO266 := Aside0.mk (ho)
         clear HO_256002 ho hb hg hat
         obtain ⟨Ao38, co38, eo38⟩ := Kd.R_slice HO266.out
         (first | subst eo38 | (injection eo38 with f1_ f2_ f3_; have f4_ := f1_.symm; have f5_ := f3_.symm; clear f1_ f2_ f3_; subst f4_; subst f5_))
         refine hK.out _ _ ⟨(blk_cell BK255.out 0).trans rfl, (blk_cell BK255.out 1).trans rfl, (blk_cell BK255.out 2).trans rfl⟩ (fun hHeld => ?_)
         clear hK K
         refine nS_ (some 47) ?_
         refine pT_ 6 (some 48) #[true, true, true, true, true, true, true, false] HT_ ?_
         refine last_ (i := 7) (N := none) #[true, true, true, true, true, true, true, true] rfl rfl (one_of HT_.out (by kernel_rfl)) (by decide) (fun K hK => ?_)
         have hs39 : w37.cell? ⟨gb255, 2, none⟩ = some (.slice Ao34 x256002_3.length co34) := (blk_cell BK255.out 2).trans rfl
         have hfs39 := blk_frozen BK255.out 2; have hns39_0 := NB250_255.out; have hms39_0 := NB255_250.out
         refine skip_ (w1 := ?_) (by rfl) rfl ?_ ?_
         rotate_left
         ·go_simp
          rfl
         refine hK.out _ _ ?_
         clear hK K
         refine done_ (done_of HT_.out (by kernel_rfl)) ?_
         try go_wp2
         go_roundg k3
         case measure => have := HJ3.out; have := HJ16.out; have := HK3.out; omega
         case rel => exact ⟨(t263), (y264), (.slice Ao38 y264.length co38), H', ⟨by have := HJ3.out; have := HJ16.out; have := HK3.out; omega⟩, ⟨by (with_reducible repeat (first | apply Kd.R_alloc | apply Kd.R_drewN | apply Kd.R_drew)); exact Kd.R_mono (Kd.R_far (p := ⟨gb255, 2, none⟩) (Kd.R_types HO266.out BK255.out (by decide)) (fun _ hk => hk.2) (.slice Ao38 y264.length co38)) (fun _ hk => trivial)⟩, ⟨by (with_reducible repeat (first | refine blk_drewN ?_ _ | refine blk_drew ?_ | refine blk_alloc ?_ _)); refine blk_far ?_ NB250_255.out _; exact bT_ BK250⟩, ⟨by (with_reducible repeat (first | refine blk_drewN ?_ _ | refine blk_drew ?_ | refine blk_alloc ?_ _)); refine blk_put (cs := #[.int .i64 x256000_16, .int .i64 x256001_16, .slice Ao34 x256002_3.length co34]) ?_ 2 _ rfl; exact bT_ BK255⟩, ⟨by repeat (first | (with_reducible first | exact HI0.out | apply IsS92.alloc | apply IsS92.drewN | apply IsS92.drew | apply IsS92.set_1 | refine IsS92.far ?_ NB0_250.out _ | refine IsS92.far ?_ NB0_255.out _) | exact HI0.out)⟩, ⟨by repeat (first | (with_reducible first | exact HK.out | apply KeepBut.set_ | apply keep_drewN | apply keep_drew | apply keep_alloc | refine keep_far ?_ GW250.out _ | refine keep_far ?_ GW255.out _) | exact HK.out)⟩, ⟨by repeat (first | (with_reducible first | exact HB.out | apply below_alloc | apply pw_below_drewN | apply below_drew1 | refine below_set ?_ (IsS92.ge HI0.out) | refine below_set ?_ GE250.out | refine below_set ?_ GE255.out) | exact HB.out)⟩⟩
        ·rw [if_neg c30] at H
         exact absurd H (by simp)
       ·rw [if_neg c28] at H
        have c28b0 : decide ((x256002_3.length : Int) < (wrap64 (x256000_16 * x256001_16))) = false := decide_eq_false c28
        clear c28
        simp only [Option.some.injEq, Prod.mk.injEq] at H
        obtain ⟨rfl, rfl, rfl, rfl⟩ := H
        have hnb40 := NB255_250.out; have hnc40 := NB250_255.out; have hnb41 := NB255_0.out; have hnc41 := NB0_255.out
        have hcz42_0 : wr.cell? ⟨gb255, 0, none⟩ = some (.int .i64 x256000_16) := (blk_cell BK255.out 0).trans rfl
        have hcz42_1 : wr.cell? ⟨gb255, 1, none⟩ = some (.int .i64 x256001_16) := (blk_cell BK255.out 1).trans rfl
        have hcz42_2 : wr.cell? ⟨gb255, 2, none⟩ = some (u256002) := (blk_cell BK255.out 2).trans rfl
        have hfz42_0 := blk_frozen BK255.out 0; have hfz42_1 := blk_frozen BK255.out 1; have hfz42_2 := blk_frozen BK255.out 2
        obtain ⟨Ao43, co43, eo43⟩ := Kd.R_slice HO_256002.out
        subst eo43
        have hnb44 := NB250_0.out; have hnc44 := NB0_250.out
        have hcz45_0 : wr.cell? ⟨gb250, 0, none⟩ = some (.int .i64 0) := (blk_cell BK250.out 0).trans rfl
        have hcz45_1 : wr.cell? ⟨gb250, 1, none⟩ = some (.int .i64 0) := (blk_cell BK250.out 1).trans rfl
        have hcz45_2 : wr.cell? ⟨gb250, 2, none⟩ = some (.slice none 0 0) := (blk_cell BK250.out 2).trans rfl
        have hfz45_0 := blk_frozen BK250.out 0; have hfz45_1 := blk_frozen BK250.out 1; have hfz45_2 := blk_frozen BK250.out 2
        go_wp2
        refine bodyPost_ret (results_cell_row rfl _ _ gb250 62 #[.int .i64 x256000_16, .int .i64 x256001_16, .slice Ao43 x256002_3.length co43] (0, 0) _ rfl (by (with_reducible repeat (first | refine blk_drewN ?_ _ | refine blk_drew ?_ | refine blk_alloc ?_ _)); refine blk_put (cs := #[.int .i64 x256000_16, .int .i64 x256001_16, .slice none 0 0]) ?_ 2 _ rfl; (with_reducible repeat (first | refine blk_drewN ?_ _ | refine blk_drew ?_ | refine blk_alloc ?_ _)); refine blk_put (cs := #[.int .i64 x256000_16, .int .i64 0, .slice none 0 0]) ?_ 1 _ rfl; (with_reducible repeat (first | refine blk_drewN ?_ _ | refine blk_drew ?_ | refine blk_alloc ?_ _)); refine blk_put (cs := #[.int .i64 0, .int .i64 0, .slice none 0 0]) ?_ 0 _ rfl; exact bT_ BK250) Try.underlying62 rfl (by kernel_rfl)) rfl ?_
        exact ⟨_, by first | rfl | (simp [errW_none, errW_some] <;> rfl) | (simp [*, errW_none, errW_some] <;> rfl), by (with_reducible repeat (first | apply Kd.R_alloc | apply Kd.R_drewN | apply Kd.R_drew)); exact Kd.R_mono (Kd.R_far (p := ⟨gb250, 2, none⟩) (Kd.R_far (p := ⟨gb250, 1, none⟩) (Kd.R_far (p := ⟨gb250, 0, none⟩) (Kd.R_types HO_256002.out BK250.out (by decide)) (fun _ hk => hk.2) (.int .i64 x256000_16)) (fun _ hk => hk.2) (.int .i64 x256001_16)) (fun _ hk => hk.2) (.slice Ao43 x256002_3.length co43)) (fun _ hk => trivial), by repeat (first | (with_reducible first | exact HI0.out | apply IsS92.alloc | apply IsS92.drewN | apply IsS92.drew | apply IsS92.set_1 | refine IsS92.far ?_ NB0_250.out _ | refine IsS92.far ?_ NB0_255.out _) | exact HI0.out), by repeat (first | (with_reducible first | exact HB.out | apply below_alloc | apply pw_below_drewN | apply below_drew1 | refine below_set ?_ (IsS92.ge HI0.out) | refine below_set ?_ GE250.out | refine below_set ?_ GE255.out) | exact HB.out), by repeat (first | (with_reducible first | exact HK.out | apply KeepBut.set_ | apply keep_drewN | apply keep_drew | apply keep_alloc | refine keep_far ?_ GW250.out _ | refine keep_far ?_ GW255.out _) | exact HK.out)⟩

end Go.Proofs.Ytopfdmodbhopiaa.QFnWaterBook
