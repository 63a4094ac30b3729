-- Written by a program of this session out of the printer's texts and contracts of its own.
import Derived.Test.YtopfdmodbhopiaaSq
import Derived.Test.YtopfdmodbhopiaaQFnWaterBookx0
import Derived.Test.YtopfdmodbhopiaaQFnWaterBookx5
import Derived.Test.YtopfdmodbhopiaaQFnWaterBookx6
import Derived.Test.YtopfdmodbhopiaaQFnWaterBookx7
import Derived.Test.YtopfdmodbhopiaaQFnWaterBookx8
namespace Go.Proofs.Ytopfdmodbhopiaa.QFnWaterBook
open Go.RowKit Go.Proofs.YtopfdmodbhopiaaW.PrintWords Go.Proofs.YtopfdmodbhopiaaW.PrintLast Go.Proofs.YtopfdmodbhopiaaW.PrintMore Go.Proofs.Ytopfdmodbhopiaa.Sq
attribute [local go_sem] max2_int min2_int max_two min_two max_three min_three max_four min_four   -- for this text's walks alone
set_option linter.unusedVariables false
set_option linter.unusedSimpArgs false

/-! ### spec_l13DrawNext: function 50 -/
mutual
def spec_l13DrawNext.j0 : Nat → List Int → Bool → List Int → Int → Option (List Int × Int)
 | 0, _, _, _, _ => none
 | k + 1, x4, x19, x1000, x1001 => if x19 = true then ((spec_l1Rd_below.f x1000 x1001 (x4.length : Int)).bind fun bt281 => ((spec_l1Rd_below.f x1000 bt281.2 (wrap64 ((x4.length : Int) + 2))).bind fun bt283 => (if 0 ≤ bt281.1 then (if bt281.1 < (x4.length : Int) then (spec_l13DrawNext.j1 k (x4.set (bt281.1 : Int).toNat (wrap64 (bt283.1 - 1))) x1000 bt283.2) else (none)) else (none)))) else (spec_l13DrawNext.j1 k x4 x1000 x1001)
def spec_l13DrawNext.j1 : Nat → List Int → List Int → Int → Option (List Int × Int)
 | 0, _, _, _ => none
 | k + 1, x4, x1000, x1001 => (spec_l1Rd_once.f x1000 x1001 40).bind fun bt286 => (if bt286.1 = true then ((spec_l1Rd_below.f x1000 bt286.2 2).bind fun bt288 => (if 0 ≤ (x4.length : Int) then (spec_l13DrawNext.l0 k (x4.take (0 : Int).toNat) (wrap64 (576 + bt288.1)) 0 x1000 bt288.2) else (none))) else (some (x4, bt286.2)))
def spec_l13DrawNext.l0 : Nat → List Int → Int → Int → List Int → Int → Option (List Int × Int)
 | 0, _, _, _, _, _ => none
 | k + 1, x4, x5, x6, x1000, x1001 => if x6 < x5 then (if x4.length < 17592186044416 then (spec_l13DrawNext.l0 k (x4 ++ [wrap64 (x6 - 1)]) x5 (wrap64 (x6 + 1)) x1000 x1001) else (none)) else (some (x4, x1001))
end
def spec_l13DrawNext.f (k : Nat) (s0_0 : List Int) (s0_1 : Int) : Option (List Int × Int) := (spec_l1Rd_box.f k s0_0 s0_1).bind fun bt267 => ((spec_Drain.f k bt267.1 bt267.2.1 bt267.2.2.1).bind fun bt273 => (if (bt273.2.length : Int) > 0 then ((spec_l1Rd_once.f s0_0 bt267.2.2.2 6).bind fun bt279 => (spec_l13DrawNext.j0 k bt273.2 bt279.1 s0_0 bt279.2)) else (spec_l13DrawNext.j0 k bt273.2 false s0_0 bt267.2.2.2)))
theorem spec_l13DrawNext.mono_l : ∀ k, (∀ y0 y1 y2 y3, LeO (spec_l13DrawNext.j0 k y0 y1 y2 y3) (spec_l13DrawNext.j0 (k + 1) y0 y1 y2 y3)) ∧ (∀ y0 y1 y2, LeO (spec_l13DrawNext.j1 k y0 y1 y2) (spec_l13DrawNext.j1 (k + 1) y0 y1 y2)) ∧ (∀ y0 y1 y2 y3 y4, LeO (spec_l13DrawNext.l0 k y0 y1 y2 y3 y4) (spec_l13DrawNext.l0 (k + 1) y0 y1 y2 y3 y4))
 | 0 => ⟨fun _ _ _ _ r h => by simp [spec_l13DrawNext.j0] at h, fun _ _ _ r h => by simp [spec_l13DrawNext.j1] at h, fun _ _ _ _ _ r h => by simp [spec_l13DrawNext.l0] at h⟩
 | k + 1 => by
  obtain ⟨ih0, ih1, ih2⟩ := spec_l13DrawNext.mono_l k
  refine ⟨?_, ?_, ?_⟩
  intro y0 y1 y2 y3; unfold spec_l13DrawNext.j0; rotate_left
  intro y0 y1 y2; unfold spec_l13DrawNext.j1; rotate_left
  intro y0 y1 y2 y3 y4; unfold spec_l13DrawNext.l0; rotate_left
  all_goals repeat' first
  | (with_reducible exact ih0 _ _ _ _)
  | (with_reducible exact ih1 _ _ _)
  | (with_reducible exact ih2 _ _ _ _ _)
  | (with_reducible exact spec_Drain.mono _ _ _ _)
  | (with_reducible exact spec_l1Rd_box.mono _ _ _)
  | (with_reducible exact LeO.refl _)
  | (with_reducible exact LeO.none _)
  | (with_reducible refine LeO.ite ?_ ?_)
  | (with_reducible refine LeO.bind ?_ (fun _ => ?_))
  | exact ih0 _ _ _ _
  | exact ih1 _ _ _
  | exact ih2 _ _ _ _ _
  | exact spec_Drain.mono _ _ _ _
  | exact spec_l1Rd_box.mono _ _ _
  | exact LeO.none _
  | refine LeO.ite ?_ ?_
  | refine LeO.bind ?_ (fun _ => ?_)
theorem spec_l13DrawNext.mono : ∀ a0 a1 k, LeO (spec_l13DrawNext.f k a0 a1) (spec_l13DrawNext.f (k + 1) a0 a1) := by
 intro a0 a1 k
 obtain ⟨ih0, ih1, ih2⟩ := spec_l13DrawNext.mono_l k
 unfold spec_l13DrawNext.f
 repeat' first
   | (with_reducible exact ih0 _ _ _ _)
   | (with_reducible exact ih1 _ _ _)
   | (with_reducible exact ih2 _ _ _ _ _)
   | (with_reducible exact spec_Drain.mono _ _ _ _)
   | (with_reducible exact spec_l1Rd_box.mono _ _ _)
   | (with_reducible exact LeO.refl _)
   | (with_reducible exact LeO.none _)
   | (with_reducible refine LeO.ite ?_ ?_)
   | (with_reducible refine LeO.bind ?_ (fun _ => ?_))
   | exact ih0 _ _ _ _
   | exact ih1 _ _ _
   | exact ih2 _ _ _ _ _
   | exact spec_Drain.mono _ _ _ _
   | exact spec_l1Rd_box.mono _ _ _
   | exact LeO.none _
   | refine LeO.ite ?_ ?_
   | refine LeO.bind ?_ (fun _ => ?_)
set_option maxHeartbeats 8000000 in
set_option maxRecDepth 100000 in
theorem spec_l13DrawNext.calls (k : Nat) (g : Nat) (s0_0 : List Int) (s0_1 : Int) (r1 : List Int) (r2 : Int) (w0 w : World) (hI : IsS92 w0 w g s0_0 s0_1) (hB : Below w0.heap.size w0 w) (h : spec_l13DrawNext.f k s0_0 s0_1 = some (r1, r2)) :
  Calls Try.prog 50 #[.pointer (some ⟨g, 0, none⟩)] w fun e w' => ∃ v0_ : Value, e = .returned (v0_) ∧ Kd.R (Kd.int .i64) 2 w' w.heap.size (fun _ => True) v0_ r1 ∧ IsS92 w0 w' g s0_0 r2 ∧ Below w0.heap.size w0 w' ∧ KeepBut w w' g none := by
 have HI0 := Aside0.mk hI
 have HK := Aside0.mk (KeepBut.refl w g none)
 have HL := Aside0.mk hB.size; clear hI; have HW0 := Aside0.mk hB.size; have HB := Aside0.mk hB; clear hB
 have H : ((spec_l1Rd_box.f k s0_0 s0_1).bind fun bt267 => ((spec_Drain.f k bt267.1 bt267.2.1 bt267.2.2.1).bind fun bt273 => (if (bt273.2.length : Int) > 0 then ((spec_l1Rd_once.f s0_0 bt267.2.2.2 6).bind fun bt279 => (spec_l13DrawNext.j0 k bt273.2 bt279.1 s0_0 bt279.2)) else (spec_l13DrawNext.j0 k bt273.2 false s0_0 bt267.2.2.2)))) = some (r1, r2) := h
 clear h; replace H := Option.bind_eq_some_iff.mp H
 obtain ⟨⟨t267, t268, t269, t272⟩, A20, H⟩ := H
 replace H : ((spec_Drain.f k t267 t268 t269).bind fun bt273 => (if (bt273.2.length : Int) > 0 then ((spec_l1Rd_once.f s0_0 t272 6).bind fun bt279 => (spec_l13DrawNext.j0 k bt273.2 bt279.1 s0_0 bt279.2)) else (spec_l13DrawNext.j0 k bt273.2 false s0_0 t272))) = some (r1, r2) := H
 have A2 := Aside0.mk A20; clear A20; replace H := Option.bind_eq_some_iff.mp H
 obtain ⟨⟨t273, t276⟩, A30, H⟩ := H
 replace H : (if (t276.length : Int) > 0 then ((spec_l1Rd_once.f s0_0 t272 6).bind fun bt279 => (spec_l13DrawNext.j0 k t276 bt279.1 s0_0 bt279.2)) else (spec_l13DrawNext.j0 k t276 false s0_0 t272)) = some (r1, r2) := H
 have A3 := Aside0.mk A30; clear A30; have HC4 := Aside0.mk H; clear H
 go_enter Try.func50, Try.ntmps50
 go_upto_region 2 with (first | ((with_reducible refine gate_callee (f := 66) rfl ?_); refine gL_ (some 9) Try.func66 #[.pointer (some ⟨g, 0, none⟩)] ?_; (with_reducible refine (spec_l1Rd_box.calls k g s0_0 s0_1 t267 t268 t269 t272 w0 _ ?side1 ?side2 A2.out).mono ?_); (case side1 => repeat (first | (with_reducible first | exact HI0.out | apply IsS92.alloc | apply IsS92.drewN | apply IsS92.drew | apply IsS92.set_1) | exact HI0.out)); (case side2 => repeat (first | (with_reducible first | exact HB.out | apply below_alloc | apply pw_below_drewN | apply below_drew1 | refine below_set ?_ (IsS92.ge HI0.out)) | exact HB.out)); rintro e w5 ⟨v270, rfl, ho0, hi, hb, hk⟩; refine ⟨_, rfl, ?_⟩; have HO271 := Aside0.mk (Kd.R_lower ho0 (keep_size (w := w) (g := g) (row := none) (by repeat (first | (with_reducible first | exact HK.out | apply KeepBut.set_ | apply keep_drewN | apply keep_drew | apply keep_alloc) | exact HK.out)))); replace HK := Aside0.mk (KeepBut.trans (by repeat (first | (with_reducible first | exact HK.out | apply KeepBut.set_ | apply keep_drewN | apply keep_drew | apply keep_alloc) | exact HK.out)) hk (.inl rfl)); replace HB := Aside0.mk (hb); replace HI0 := Aside0.mk (hi); (try clear hb); (try clear hb2); (try clear hk); (try clear hi); (try clear ho0); obtain ⟨Ao6, co6, eo6⟩ := Kd.R_slice HO271.out; subst eo6) | ((with_reducible refine gate_callee (f := 36) rfl ?_); refine gL_ (some 10) Try.func36 #[.agg #[.int .i64 t267, .int .i64 t268, .slice Ao6 t269.length co6]] ?_; (with_reducible refine (spec_Drain.calls k t267 t268 _ _ t269 t273 t276 _ ?side1 ?side2 A3.out).mono ?_); (case side1 => exact rD_ HO271); (case side2 => exact (Kd.R_reads' HO271.out).2.1); rintro e w7 ⟨v274, v277, rfl, ho0, ho1, hb⟩; refine ⟨_, rfl, ?_⟩; have HO275 := Aside0.mk (Kd.R_lower (rN_ ho0 HO271) (keep_size (w := w) (g := g) (row := none) (by repeat (first | (with_reducible first | exact HK.out | apply KeepBut.set_ | apply keep_drewN | apply keep_drew | apply keep_alloc) | exact HK.out)))); have HO278 := Aside0.mk (Kd.R_lower (rN_ ho1 HO271) (keep_size (w := w) (g := g) (row := none) (by repeat (first | (with_reducible first | exact HK.out | apply KeepBut.set_ | apply keep_drewN | apply keep_drew | apply keep_alloc) | exact HK.out)))); replace HO271 := Aside0.mk (Kd.R_mono (Kd.R_told (Kd.R_told (Kd.R_old (rT_ HO271) hb) (Kd.R_base ho0)) (Kd.R_base ho1)) (fun _ h_ => h_.1)); replace HK := Aside0.mk (KeepBut.trans (by repeat (first | (with_reducible first | exact HK.out | apply KeepBut.set_ | apply keep_drewN | apply keep_drew | apply keep_alloc) | exact HK.out)) (KeepBut.of_below hb g none) (.inl rfl)); replace HB := Aside0.mk (below_step (by repeat (first | (with_reducible first | exact HB.out | apply below_alloc | apply pw_below_drewN | apply below_drew1 | refine below_set ?_ (IsS92.ge HI0.out)) | exact HB.out)) hb); replace HI0 := Aside0.mk (IsS92.below (by repeat (first | (with_reducible first | exact HI0.out | apply IsS92.alloc | apply IsS92.drewN | apply IsS92.drew | apply IsS92.set_1) | exact HI0.out)) hb); (try clear hb); (try clear hb2); (try clear hk); (try clear hi); (try clear ho0); (try clear ho1)))
 (try simp only [Act.put, List.setIfInBounds_toArray, List.set_cons_zero, List.set_cons_succ])
 go_cut [19] (fun v19 wc => ∃ (kq : Nat) (x19_3 : Bool) (x1001_3 : Int), v19 = .bool x19_3 ∧ Aside0 (spec_l13DrawNext.j0 kq t276 x19_3 s0_0 x1001_3 = some (r1, r2)) ∧ Aside0 (kq ≤ k) ∧ Aside0 (Kd.R (Kd.int .i64) 2 wc w.heap.size (fun _ => True) v277 t276) ∧ Aside0 (IsS92 w0 wc g s0_0 x1001_3) ∧ Aside0 (KeepBut w wc g none) ∧ Aside0 (Below w0.heap.size w0 wc))
 case first =>
  have H := HC4.out; clear HC4
  by_cases c8 : (t276.length : Int) > 0
  ·rw [if_pos c8] at H
   have c8b0 : decide (0 < (t276.length : Int)) = true := decide_eq_true c8
   have c8b1 : decide (0 < t276.length) = true := decide_eq_true (by omega)
   clear c8
   (first | rw [c8b0] | (simp only [i64_w, i32_w]; rw [c8b0]) | skip)
   replace H := Option.bind_eq_some_iff.mp H
   obtain ⟨⟨t279, t280⟩, A90, H⟩ := H
   replace H : (spec_l13DrawNext.j0 k t276 t279 s0_0 t280) = some (r1, r2) := H
   have A9 := Aside0.mk A90; clear A90; have H' := Aside0.mk H; clear H
   obtain ⟨Ao10, co10, eo10⟩ := Kd.R_slice HO278.out
   subst eo10
   go_wp2_with (first | (go_at_call 67; (with_reducible refine (spec_l1Rd_once.calls g s0_0 t272 6 t279 t280 w0 _ ?side1 ?side2 A9.out).mono ?_); (case side1 => repeat (first | (with_reducible first | exact HI0.out | apply IsS92.alloc | apply IsS92.drewN | apply IsS92.drew | apply IsS92.set_1) | exact HI0.out)); (case side2 => repeat (first | (with_reducible first | exact HB.out | apply below_alloc | apply pw_below_drewN | apply below_drew1 | refine below_set ?_ (IsS92.ge HI0.out)) | exact HB.out)); rintro e w11 ⟨rfl, hi, hb, hk⟩; replace HO271 := Aside0.mk (Kd.R_mono (Kd.R_keep (IsS92.apart (show IsS92 w0 _ g s0_0 t272 from by repeat (first | (with_reducible first | exact HI0.out | apply IsS92.alloc | apply IsS92.drewN | apply IsS92.drew | apply IsS92.set_1) | exact HI0.out)) (rT_ HO271) (by decide)) hk (fun _ h => h.2)) (fun _ h => h.1)); replace HO275 := Aside0.mk (Kd.R_mono (Kd.R_keep (IsS92.apart (show IsS92 w0 _ g s0_0 t272 from by repeat (first | (with_reducible first | exact HI0.out | apply IsS92.alloc | apply IsS92.drewN | apply IsS92.drew | apply IsS92.set_1) | exact HI0.out)) (rT_ HO275) (by decide)) hk (fun _ h => h.2)) (fun _ h => h.1)); replace HO278 := Aside0.mk (Kd.R_mono (Kd.R_keep (IsS92.apart (show IsS92 w0 _ g s0_0 t272 from by repeat (first | (with_reducible first | exact HI0.out | apply IsS92.alloc | apply IsS92.drewN | apply IsS92.drew | apply IsS92.set_1) | exact HI0.out)) (rT_ HO278) (by decide)) hk (fun _ h => h.2)) (fun _ h => h.1)); replace HK := Aside0.mk (KeepBut.trans (by repeat (first | (with_reducible first | exact HK.out | apply KeepBut.set_ | apply keep_drewN | apply keep_drew | apply keep_alloc) | exact HK.out)) hk (.inl rfl)); replace HB := Aside0.mk (hb); replace HI0 := Aside0.mk (hi); (try clear hb); (try clear hb2); (try clear hk); (try clear hi)))
   go_meet
   case rel => exact ⟨_, (t279), (t280), (by first | rfl | (simp; done) | (simp [*]; done)), H', ⟨by first | omega | exact Nat.le_refl _⟩, ⟨by (with_reducible repeat (first | apply Kd.R_alloc | apply Kd.R_drewN | apply Kd.R_drew)); exact Kd.R_mono HO278.out (fun _ hk => trivial)⟩, ⟨by repeat (first | (with_reducible first | exact HI0.out | apply IsS92.alloc | apply IsS92.drewN | apply IsS92.drew | apply IsS92.set_1) | exact HI0.out)⟩, ⟨by repeat (first | (with_reducible first | exact HK.out | apply KeepBut.set_ | apply keep_drewN | apply keep_drew | apply keep_alloc) | exact HK.out)⟩, ⟨by repeat (first | (with_reducible first | exact HB.out | apply below_alloc | apply pw_below_drewN | apply below_drew1 | refine below_set ?_ (IsS92.ge HI0.out)) | exact HB.out)⟩⟩
  ·rw [if_neg c8] at H
   have c8b0 : decide (0 < (t276.length : Int)) = false := decide_eq_false c8
   have c8b1 : decide (0 < t276.length) = false := decide_eq_false (by omega)
   clear c8
   (first | rw [c8b0] | (simp only [i64_w, i32_w]; rw [c8b0]) | skip)
   have H' := Aside0.mk H; clear H
   obtain ⟨Ao12, co12, eo12⟩ := Kd.R_slice HO278.out
   subst eo12
   go_wp2
   go_meet
   case rel => exact ⟨_, (false), (t272), (by first | rfl | (simp; done) | (simp [*]; done)), H', ⟨by first | omega | exact Nat.le_refl _⟩, ⟨by (with_reducible repeat (first | apply Kd.R_alloc | apply Kd.R_drewN | apply Kd.R_drew)); exact Kd.R_mono HO278.out (fun _ hk => trivial)⟩, ⟨by repeat (first | (with_reducible first | exact HI0.out | apply IsS92.alloc | apply IsS92.drewN | apply IsS92.drew | apply IsS92.set_1) | exact HI0.out)⟩, ⟨by repeat (first | (with_reducible first | exact HK.out | apply KeepBut.set_ | apply keep_drewN | apply keep_drew | apply keep_alloc) | exact HK.out)⟩, ⟨by repeat (first | (with_reducible first | exact HB.out | apply below_alloc | apply pw_below_drewN | apply below_drew1 | refine below_set ?_ (IsS92.ge HI0.out)) | exact HB.out)⟩⟩
 case rest =>
  clear HC4; (try clear p2); (try clear c3); (try clear c5); (try clear c6); (try clear c8); (try clear c8b0); (try clear c8b1)
  obtain ⟨kq, x19_3, x1001_3, rfl, HA, HJ3, HO_4, HI0, HK, HB⟩ := hcut
  cases kq with
  | zero => exact absurd HA.out (by simp [spec_l13DrawNext.j0])
  | succ kj3 =>
   have H := HA.out; clear HA
   simp only [spec_l13DrawNext.j0] at H
   have HC13 := Aside0.mk H; clear H
   go_upto_if 19 with (fail)
   go_cut [] (fun wc => ∃ (kq : Nat) (x4_12 : List Int) (x1001_12 : Int), Aside0 (spec_l13DrawNext.j1 kq x4_12 s0_0 x1001_12 = some (r1, r2)) ∧ Aside0 (kq ≤ kj3) ∧ Aside0 (Kd.R (Kd.int .i64) 2 wc w.heap.size (fun _ => True) v277 x4_12) ∧ Aside0 (IsS92 w0 wc g s0_0 x1001_12) ∧ Aside0 (KeepBut w wc g none) ∧ Aside0 (Below w0.heap.size w0 wc))
   case first =>
    have H := HC13.out; clear HC13
    by_cases c14 : x19_3 = true
    ·subst c14
     have H1 : ((spec_l1Rd_below.f s0_0 x1001_3 (t276.length : Int)).bind fun bt281 => ((spec_l1Rd_below.f s0_0 bt281.2 (wrap64 ((t276.length : Int) + 2))).bind fun bt283 => (if 0 ≤ bt281.1 then (if bt281.1 < (t276.length : Int) then (spec_l13DrawNext.j1 kj3 (t276.set (bt281.1 : Int).toNat (wrap64 (bt283.1 - 1))) s0_0 bt283.2) else (none)) else (none)))) = some (r1, r2) := by rw [if_pos rfl] at H; exact H
     clear H; have H := H1; clear H1; replace H := Option.bind_eq_some_iff.mp H
     obtain ⟨⟨t281, t282⟩, A150, H⟩ := H
     replace H : ((spec_l1Rd_below.f s0_0 t282 (wrap64 ((t276.length : Int) + 2))).bind fun bt283 => (if 0 ≤ t281 then (if t281 < (t276.length : Int) then (spec_l13DrawNext.j1 kj3 (t276.set (t281 : Int).toNat (wrap64 (bt283.1 - 1))) s0_0 bt283.2) else (none)) else (none))) = some (r1, r2) := H
     have A15 := Aside0.mk A150; clear A150; replace H := Option.bind_eq_some_iff.mp H
     obtain ⟨⟨t283, t284⟩, A160, H⟩ := H
     replace H : (if 0 ≤ t281 then (if t281 < (t276.length : Int) then (spec_l13DrawNext.j1 kj3 (t276.set (t281 : Int).toNat (wrap64 (t283 - 1))) s0_0 t284) else (none)) else (none)) = some (r1, r2) := H
     have A16 := Aside0.mk A160; clear A160
     by_cases c17 : 0 ≤ t281
     ·rw [if_pos c17] at H
      have c17b0 : decide (0 ≤ t281) = true := decide_eq_true c17
      clear c17
      (first | rw [c17b0] | (simp only [i64_w, i32_w]; rw [c17b0]) | skip)
      by_cases c18 : t281 < (t276.length : Int)
      ·rw [if_pos c18] at H
       have c18b0 : decide (t281 < (t276.length : Int)) = true := decide_eq_true c18
       clear c18
       obtain ⟨y285, hy285⟩ : ∃ y_ : List Int, y_ = (t276.set (t281 : Int).toNat (wrap64 (t283 - 1))) := ⟨_, rfl⟩
       replace H : (spec_l13DrawNext.j1 kj3 y285 s0_0 t284) = some (r1, r2) := by first | (rw [hy285]; with_reducible exact H) | (have H2_ := (Option.bind_some _ _).symm.trans H; rw [hy285]; with_reducible exact H2_) | (have H2_ := (Option.bind_some _ _).symm.trans H; with_reducible exact H2_) | with_reducible exact H | (rw [hy285]; exact H) | exact H
       have Ny285 := Aside0.mk hy285; clear hy285; have H' := Aside0.mk H; clear H
       obtain ⟨Ao20, co20, eo20⟩ := Kd.R_slice HO_4.out
       subst eo20
       go_wp2_with (first | ((with_reducible refine gate_callee (f := 53) rfl ?_); refine gL_ (some 24) Try.func53 #[.pointer (some ⟨g, 0, none⟩), .int .i64 (t276.length : Int)] ?_; (with_reducible refine (spec_l1Rd_below.calls g s0_0 x1001_3 (t276.length : Int) t281 t282 w0 _ ?side1 ?side2 A15.out).mono ?_); (case side1 => repeat (first | (with_reducible first | exact HI0.out | apply IsS92.alloc | apply IsS92.drewN | apply IsS92.drew | apply IsS92.set_1) | exact HI0.out)); (case side2 => repeat (first | (with_reducible first | exact HB.out | apply below_alloc | apply pw_below_drewN | apply below_drew1 | refine below_set ?_ (IsS92.ge HI0.out)) | exact HB.out)); rintro e w21 ⟨rfl, hi, hb, hk⟩; refine ⟨_, rfl, ?_⟩; replace HO_4 := Aside0.mk (Kd.R_mono (Kd.R_keep (IsS92.apart (show IsS92 w0 _ g s0_0 x1001_3 from by repeat (first | (with_reducible first | exact HI0.out | apply IsS92.alloc | apply IsS92.drewN | apply IsS92.drew | apply IsS92.set_1) | exact HI0.out)) (rT_ HO_4) (by decide)) hk (fun _ h => h.2)) (fun _ h => h.1)); replace HK := Aside0.mk (KeepBut.trans (by repeat (first | (with_reducible first | exact HK.out | apply KeepBut.set_ | apply keep_drewN | apply keep_drew | apply keep_alloc) | exact HK.out)) hk (.inl rfl)); replace HB := Aside0.mk (hb); replace HI0 := Aside0.mk (hi); (try clear hb); (try clear hb2); (try clear hk); (try clear hi)) | ((with_reducible refine gate_callee (f := 53) rfl ?_); refine gL_ (some 29) Try.func53 #[.pointer (some ⟨g, 0, none⟩), .int .i64 (wrap64 ((t276.length : Int) + 2))] ?_; (with_reducible refine (spec_l1Rd_below.calls g s0_0 t282 (wrap64 ((t276.length : Int) + 2)) t283 t284 w0 _ ?side1 ?side2 A16.out).mono ?_); (case side1 => repeat (first | (with_reducible first | exact HI0.out | apply IsS92.alloc | apply IsS92.drewN | apply IsS92.drew | apply IsS92.set_1) | exact HI0.out)); (case side2 => repeat (first | (with_reducible first | exact HB.out | apply below_alloc | apply pw_below_drewN | apply below_drew1 | refine below_set ?_ (IsS92.ge HI0.out)) | exact HB.out)); rintro e w22 ⟨rfl, hi, hb, hk⟩; refine ⟨_, rfl, ?_⟩; replace HO_4 := Aside0.mk (Kd.R_mono (Kd.R_keep (IsS92.apart (show IsS92 w0 _ g s0_0 t282 from by repeat (first | (with_reducible first | exact HI0.out | apply IsS92.alloc | apply IsS92.drewN | apply IsS92.drew | apply IsS92.set_1) | exact HI0.out)) (rT_ HO_4) (by decide)) hk (fun _ h => h.2)) (fun _ h => h.1)); replace HK := Aside0.mk (KeepBut.trans (by repeat (first | (with_reducible first | exact HK.out | apply KeepBut.set_ | apply keep_drewN | apply keep_drew | apply keep_alloc) | exact HK.out)) hk (.inl rfl)); replace HB := Aside0.mk (hb); replace HI0 := Aside0.mk (hi); (try clear hb); (try clear hb2); (try clear hk); (try clear hi); have p19 : 0 ≤ (t281 : Int) := of_decide_eq_true (by first | (with_reducible assumption) | assumption); have q19 : (t281 : Int) < ((t276.length : Int) : Int) := of_decide_eq_true (by first | (with_reducible assumption) | assumption); obtain ⟨go19, co19, eo19, gb19, gl19, cl19, HG19⟩ := Kd.R_form HO_4.out (by omega); (first | cases eo19 | (injection eo19 with ea_ en_ ec_; (first | subst ea_ | (injection ea_ with ea_; subst ea_)); subst ec_; clear en_)); have GB19 := Aside0.mk gb19; have GG19 := Aside0.mk HG19; clear gb19 gl19 HG19; obtain ⟨hx19_0, hf19_0⟩ := Kd.R_celln 0 HO_4.out (t281 : Int) p19 q19; replace p19 := eq_true p19; replace q19 := eq_true q19; obtain ⟨hy23_, hz23_⟩ := Kd.R_celln 0 HO_4.out (t281 : Int) (of_decide_eq_true (by first | (with_reducible assumption) | assumption)) (of_decide_eq_true (by first | (with_reducible assumption) | assumption)); have HP23 := Kd.R_putg HO_4.out (t281 : Int) (wrap64 (t283 - 1))) | ((with_reducible refine gate_store (t := 2) (p := 31) rfl ?_); refine store_event (t := 2) (p := 31) (v := ?vo_w24) (w1 := (w22.setCell ⟨go19, (t281 : Int).toNat, none⟩ (.int .i64 (wrap64 (t283 - 1))))) ?hg ?ho ?hn ?hr ?_; (case ho => rfl); (case hg => rfl); (case hn => rfl); (case hr => first | (go_simp; done) | (go_simp; rfl)); intro w24 hw; have hg : w22.grownBy w24 (some go19) := (by rw [hw]; exact HP23.2); have hp_ : Kd.R (Kd.int .i64) 2 w24 w.heap.size (fun _ => True) (.slice (some ⟨go19, 0, none⟩) t276.length co20) y285 := (by rw [hw, Ny285.out]; exact HP23.1); clear HP23; replace HI0 := Aside0.mk (IsS92.grown (by repeat (first | (with_reducible first | exact HI0.out | apply IsS92.alloc | apply IsS92.drewN | apply IsS92.drew | apply IsS92.set_1) | exact HI0.out)) hg (IsS92.own_ne HI0.out HO_4.out (by decide))); replace HB := Aside0.mk ((by rw [hw]; exact below_set (HB.out) (Nat.le_trans HL.out GB19.out) : Below w0.heap.size w0 w24)); replace HK := Aside0.mk (KeepBut.trans (by repeat (first | (with_reducible first | exact HK.out | apply KeepBut.set_ | apply keep_drewN | apply keep_drew | apply keep_alloc) | exact HK.out)) (KeepBut.of_grown hg g) (Kd.R_base2 HO_4.out)); replace HO_4 := Aside0.mk (hp_); clear hg hw hp_))
       go_meet
       case rel => exact ⟨_, (y285), (t284), H', ⟨by have := HJ3.out; first | omega | exact Nat.le_refl _⟩, ⟨by (with_reducible repeat (first | apply Kd.R_alloc | apply Kd.R_drewN | apply Kd.R_drew)); exact HO_4.out⟩, ⟨by repeat (first | (with_reducible first | exact HI0.out | apply IsS92.alloc | apply IsS92.drewN | apply IsS92.drew | apply IsS92.set_1) | exact HI0.out)⟩, ⟨by repeat (first | (with_reducible first | exact HK.out | apply KeepBut.set_ | apply keep_drewN | apply keep_drew | apply keep_alloc) | exact HK.out)⟩, ⟨by repeat (first | (with_reducible first | exact HB.out | apply below_alloc | apply pw_below_drewN | apply below_drew1 | refine below_set ?_ (IsS92.ge HI0.out)) | exact HB.out)⟩⟩
      ·rw [if_neg c18] at H
       exact absurd H (by simp)
     ·rw [if_neg c17] at H
      exact absurd H (by simp)
    ·replace c14 := Bool.eq_false_iff.mpr c14
     subst c14
     have H1 : (spec_l13DrawNext.j1 kj3 t276 s0_0 x1001_3) = some (r1, r2) := by rw [if_neg (show ¬ (false = true) by decide)] at H; exact H
     clear H; have H := H1; clear H1; have H' := Aside0.mk H; clear H
     go_wp2
     go_meet
     case rel => exact ⟨_, (t276), (x1001_3), H', ⟨by have := HJ3.out; first | omega | exact Nat.le_refl _⟩, ⟨by (with_reducible repeat (first | apply Kd.R_alloc | apply Kd.R_drewN | apply Kd.R_drew)); exact HO_4.out⟩, ⟨by repeat (first | (with_reducible first | exact HI0.out | apply IsS92.alloc | apply IsS92.drewN | apply IsS92.drew | apply IsS92.set_1) | exact HI0.out)⟩, ⟨by repeat (first | (with_reducible first | exact HK.out | apply KeepBut.set_ | apply keep_drewN | apply keep_drew | apply keep_alloc) | exact HK.out)⟩, ⟨by repeat (first | (with_reducible first | exact HB.out | apply below_alloc | apply pw_below_drewN | apply below_drew1 | refine below_set ?_ (IsS92.ge HI0.out)) | exact HB.out)⟩⟩
   case rest =>
    clear HC13; (try clear c1); (try clear p1); (try clear q1); (try clear hx1); (try clear hf1); (try clear p2); (try clear c3); (try clear c5); (try clear c6); (try clear p6); (try clear c8); (try clear c8b0); (try clear c8b1); (try clear c14); (try clear c17); (try clear c17b0); (try clear c18); (try clear c18b0); (try clear p19); (try clear q19); (try clear hx19); (try clear hf19); (try clear hx19_0); (try clear p19); (try clear p2); (try clear q19)
    obtain ⟨kq, x4_12, x1001_12, HA, HJ12, HO_4, HI0, HK, HB⟩ := hcut
    cases kq with
    | zero => exact absurd HA.out (by simp [spec_l13DrawNext.j1])
    | succ kj12 =>
     have H := HA.out; clear HA
     simp only [spec_l13DrawNext.j1] at H
     replace H := Option.bind_eq_some_iff.mp H
     obtain ⟨⟨t286, t287⟩, A250, H⟩ := H
     replace H : (if t286 = true then ((spec_l1Rd_below.f s0_0 t287 2).bind fun bt288 => (if 0 ≤ (x4_12.length : Int) then (spec_l13DrawNext.l0 kj12 (x4_12.take (0 : Int).toNat) (wrap64 (576 + bt288.1)) 0 s0_0 bt288.2) else (none))) else (some (x4_12, t287))) = some (r1, r2) := H
     have A25 := Aside0.mk A250; clear A250
     by_cases c26 : t286 = true
     ·subst c26
      have H1 : ((spec_l1Rd_below.f s0_0 t287 2).bind fun bt288 => (if 0 ≤ (x4_12.length : Int) then (spec_l13DrawNext.l0 kj12 (x4_12.take (0 : Int).toNat) (wrap64 (576 + bt288.1)) 0 s0_0 bt288.2) else (none))) = some (r1, r2) := by rw [if_pos rfl] at H; exact H
      clear H; have H := H1; clear H1; replace H := Option.bind_eq_some_iff.mp H
      obtain ⟨⟨t288, t289⟩, A270, H⟩ := H
      replace H : (if 0 ≤ (x4_12.length : Int) then (spec_l13DrawNext.l0 kj12 (x4_12.take (0 : Int).toNat) (wrap64 (576 + t288)) 0 s0_0 t289) else (none)) = some (r1, r2) := H
      have A27 := Aside0.mk A270; clear A270
      by_cases c28 : 0 ≤ (x4_12.length : Int)
      ·rw [if_pos c28] at H
       have c28b0 := eq_true c28
       have c28b1 : decide (0 ≤ (x4_12.length : Int)) = true := decide_eq_true c28
       clear c28
       obtain ⟨y290, hy290⟩ : ∃ y_ : List Int, y_ = (x4_12.take (0 : Int).toNat) := ⟨_, rfl⟩
       replace H : (spec_l13DrawNext.l0 kj12 y290 (wrap64 (576 + t288)) 0 s0_0 t289) = some (r1, r2) := by first | (rw [hy290]; with_reducible exact H) | (have H2_ := (Option.bind_some _ _).symm.trans H; rw [hy290]; with_reducible exact H2_) | (have H2_ := (Option.bind_some _ _).symm.trans H; with_reducible exact H2_) | with_reducible exact H | (rw [hy290]; exact H) | exact H
       have Ny290 := Aside0.mk hy290; clear hy290; have H' := Aside0.mk H; clear H
       go_wp2_with (first | ((with_reducible refine gate_callee (f := 67) rfl ?_); refine gL_ (some 33) Try.func67 #[.pointer (some ⟨g, 0, none⟩), .int .i64 40] ?_; (with_reducible refine (spec_l1Rd_once.calls g s0_0 x1001_12 40 true t287 w0 _ ?side1 ?side2 A25.out).mono ?_); (case side1 => repeat (first | (with_reducible first | exact HI0.out | apply IsS92.alloc | apply IsS92.drewN | apply IsS92.drew | apply IsS92.set_1) | exact HI0.out)); (case side2 => repeat (first | (with_reducible first | exact HB.out | apply below_alloc | apply pw_below_drewN | apply below_drew1 | refine below_set ?_ (IsS92.ge HI0.out)) | exact HB.out)); rintro e w29 ⟨rfl, hi, hb, hk⟩; refine ⟨_, rfl, ?_⟩; replace HO_4 := Aside0.mk (Kd.R_mono (Kd.R_keep (IsS92.apart (show IsS92 w0 _ g s0_0 x1001_12 from by repeat (first | (with_reducible first | exact HI0.out | apply IsS92.alloc | apply IsS92.drewN | apply IsS92.drew | apply IsS92.set_1) | exact HI0.out)) (rT_ HO_4) (by decide)) hk (fun _ h => h.2)) (fun _ h => h.1)); replace HK := Aside0.mk (KeepBut.trans (by repeat (first | (with_reducible first | exact HK.out | apply KeepBut.set_ | apply keep_drewN | apply keep_drew | apply keep_alloc) | exact HK.out)) hk (.inl rfl)); replace HB := Aside0.mk (hb); replace HI0 := Aside0.mk (hi); (try clear hb); (try clear hb2); (try clear hk); (try clear hi)) | ((with_reducible refine gate_callee (f := 53) rfl ?_); refine gL_ (some 35) Try.func53 #[.pointer (some ⟨g, 0, none⟩), .int .i64 2] ?_; (with_reducible refine (spec_l1Rd_below.calls g s0_0 t287 2 t288 t289 w0 _ ?side1 ?side2 A27.out).mono ?_); (case side1 => repeat (first | (with_reducible first | exact HI0.out | apply IsS92.alloc | apply IsS92.drewN | apply IsS92.drew | apply IsS92.set_1) | exact HI0.out)); (case side2 => repeat (first | (with_reducible first | exact HB.out | apply below_alloc | apply pw_below_drewN | apply below_drew1 | refine below_set ?_ (IsS92.ge HI0.out)) | exact HB.out)); rintro e w30 ⟨rfl, hi, hb, hk⟩; refine ⟨_, rfl, ?_⟩; replace HO_4 := Aside0.mk (Kd.R_mono (Kd.R_keep (IsS92.apart (show IsS92 w0 _ g s0_0 t287 from by repeat (first | (with_reducible first | exact HI0.out | apply IsS92.alloc | apply IsS92.drewN | apply IsS92.drew | apply IsS92.set_1) | exact HI0.out)) (rT_ HO_4) (by decide)) hk (fun _ h => h.2)) (fun _ h => h.1)); replace HK := Aside0.mk (KeepBut.trans (by repeat (first | (with_reducible first | exact HK.out | apply KeepBut.set_ | apply keep_drewN | apply keep_drew | apply keep_alloc) | exact HK.out)) hk (.inl rfl)); replace HB := Aside0.mk (hb); replace HI0 := Aside0.mk (hi); (try clear hb); (try clear hb2); (try clear hk); (try clear hi); obtain ⟨Ao31, co31, eo31⟩ := Kd.R_slice HO_4.out; subst eo31; have q32 : (0 : Int) ≤ ((x4_12.length : Int) : Int) := of_decide_eq_true (by first | (with_reducible assumption) | assumption); obtain ⟨i032, hi032, _, hsz32, _⟩ := info_parts info2; have hcut32 := cut_to (P := Try.prog) 22 2 .i64 Try.underlying22 hi032 Ao31 x4_12.length co31 0 (by omega) q32 (Kd.R_reads' HO_4.out).2.1; have hr32 := Kd.R_take (m := (0 : Int).toNat) HO_4.out (by omega); have hy32 : y290.length = (0 : Int).toNat := (by rw [Ny290.out, List.length_take]; omega); rw [← Ny290.out] at hr32; rw [← hy32] at hr32 hcut32; clear hy32 hi032 hsz32 HO_4; have HO292 := Aside0.mk hr32; clear hr32; replace q32 := eq_true q32))
       go_loopg [4, 6] kj12 (fun kq v4 v6 w' => ∃ (x4_3 : List Int) (x6_3 : Int), v6 = .int .i64 x6_3 ∧ Aside0 (spec_l13DrawNext.l0 kq x4_3 (wrap64 (576 + t288)) x6_3 s0_0 t289 = some (r1, r2)) ∧ Aside0 (kq ≤ kj12) ∧ Aside0 (Kd.R (Kd.int .i64) 2 w' w.heap.size (fun _ => True) v4 x4_3) ∧ Aside0 (IsS92 w0 w' g s0_0 t289) ∧ Aside0 (KeepBut w w' g none) ∧ Aside0 (Below w0.heap.size w0 w'))
       case atStart => exact ⟨(y290), (0), (by first | rfl | (simp; done) | (simp [*]; done)), H', ⟨Nat.le_refl _⟩, ⟨by (with_reducible repeat (first | apply Kd.R_alloc | apply Kd.R_drewN | apply Kd.R_drew)); exact HO292.out⟩, ⟨by repeat (first | (with_reducible first | exact HI0.out | apply IsS92.alloc | apply IsS92.drewN | apply IsS92.drew | apply IsS92.set_1) | exact HI0.out)⟩, ⟨by repeat (first | (with_reducible first | exact HK.out | apply KeepBut.set_ | apply keep_drewN | apply keep_drew | apply keep_alloc) | exact HK.out)⟩, ⟨by repeat (first | (with_reducible first | exact HB.out | apply below_alloc | apply pw_below_drewN | apply below_drew1 | refine below_set ?_ (IsS92.ge HI0.out)) | exact HB.out)⟩⟩
       case round =>
        clear H'; (try clear c1); (try clear p1); (try clear q1); (try clear hx1); (try clear hf1); (try clear c2); (try clear p2); (try clear c3); (try clear q3); (try clear c5); (try clear c6); (try clear p6); (try clear c8); (try clear c8b0); (try clear c8b1); (try clear c14); (try clear c17); (try clear c17b0); (try clear c18); (try clear c18b0); (try clear p19); (try clear q19); (try clear hx19); (try clear hf19); (try clear c26); (try clear c28); (try clear c28b0); (try clear c28b1); (try clear q32); (try clear hx19_0); (try clear p1); (try clear p19); (try clear p2); (try clear p6); (try clear q1); (try clear q19); (try clear q32)
        obtain ⟨x4_3, x6_3, rfl, HA, HK3, HO_4, HI0, HK, HB⟩ := hrel
        cases gk with
        | zero => exact absurd HA.out (by simp [spec_l13DrawNext.l0])
        | succ k3 =>
         have H := HA.out; clear HA
         simp only [spec_l13DrawNext.l0] at H
         by_cases c33 : x6_3 < (wrap64 (576 + t288))
         ·rw [if_pos c33] at H
          have c33b0 : decide (x6_3 < (wrap64 (576 + t288))) = true := decide_eq_true c33
          clear c33
          by_cases c34 : x4_3.length < 17592186044416
          ·rw [if_pos c34] at H
           have LMc34 := Aside0.mk c34; clear c34
           obtain ⟨y293, hy293⟩ : ∃ y_ : List Int, y_ = (x4_3 ++ [wrap64 (x6_3 - 1)]) := ⟨_, rfl⟩
           replace H : (spec_l13DrawNext.l0 k3 y293 (wrap64 (576 + t288)) (wrap64 (x6_3 + 1)) s0_0 t289) = some (r1, r2) := by first | (rw [hy293]; with_reducible exact H) | (have H2_ := (Option.bind_some _ _).symm.trans H; rw [hy293]; with_reducible exact H2_) | (have H2_ := (Option.bind_some _ _).symm.trans H; with_reducible exact H2_) | with_reducible exact H | (rw [hy293]; exact H) | exact H
           have Ny293 := Aside0.mk hy293; clear hy293; have H' := Aside0.mk H; clear H
           go_wp2_with (first | ((with_reducible refine gate_builtin (b := .append) (xs := #[.tmp 44, .tmp 47]) rfl ?_); at_builtin; refine Kd.R_append (Kd.int .i64) w.heap.size rfl (.tmp 44) (.tmp 47) 22 2 (.int .i64 0) 8 rfl Try.underlying22 info2 rfl (by decide) (by omega) u4 x4_3 (wrap64 (x6_3 - 1)) [.int .i64 (wrap64 (x6_3 - 1))] (fun _ => True) (fun _ => False) rfl rfl ?aP (fun _ hk => hk.elim) ?aF ?aO (Below.refl _ _) ?aS ?aL ?_; (case aP => exact rfl); (case aF => exact (fun _ _ => trivial)); (case aO => exact (rT_ HO_4)); (case aS => exact (keep_size (w := w) (g := g) (row := none) (by repeat (first | (with_reducible first | exact HK.out | apply KeepBut.set_ | apply keep_drewN | apply keep_drew | apply keep_alloc) | exact HK.out)))); (case aL => have := LMc34.out; omega); intro v294 w35 ho hb hg hat; rw [← Ny293.out] at ho; replace HB := Aside0.mk (below_weaken (by repeat (first | (with_reducible first | exact HB.out | apply below_alloc | apply pw_below_drewN | apply below_drew1 | refine below_set ?_ (IsS92.ge HI0.out)) | exact HB.out)) HL.out hb); replace HI0 := Aside0.mk (IsS92.grown (by repeat (first | (with_reducible first | exact HI0.out | apply IsS92.alloc | apply IsS92.drewN | apply IsS92.drew | apply IsS92.set_1) | exact HI0.out)) hg (IsS92.own_ne HI0.out HO_4.out (by decide))); replace HK := Aside0.mk (KeepBut.trans (by repeat (first | (with_reducible first | exact HK.out | apply KeepBut.set_ | apply keep_drewN | apply keep_drew | apply keep_alloc) | exact HK.out)) (KeepBut.of_grown hg g) (Kd.R_base2 HO_4.out)); have HO295 := Aside0.mk (ho); clear HO_4; clear ho hb hg hat))
           go_roundg k3
           case measure => have := HJ3.out; have := HJ12.out; have := HK3.out; omega
           case rel => exact ⟨(y293), (wrap64 (x6_3 + 1)), (by first | rfl | (simp; done) | (simp [*]; done)), H', ⟨by have := HJ3.out; have := HJ12.out; have := HK3.out; omega⟩, ⟨by (with_reducible repeat (first | apply Kd.R_alloc | apply Kd.R_drewN | apply Kd.R_drew)); exact HO295.out⟩, ⟨by repeat (first | (with_reducible first | exact HI0.out | apply IsS92.alloc | apply IsS92.drewN | apply IsS92.drew | apply IsS92.set_1) | exact HI0.out)⟩, ⟨by repeat (first | (with_reducible first | exact HK.out | apply KeepBut.set_ | apply keep_drewN | apply keep_drew | apply keep_alloc) | exact HK.out)⟩, ⟨by repeat (first | (with_reducible first | exact HB.out | apply below_alloc | apply pw_below_drewN | apply below_drew1 | refine below_set ?_ (IsS92.ge HI0.out)) | exact HB.out)⟩⟩
          ·rw [if_neg c34] at H
           exact absurd H (by simp)
         ·rw [if_neg c33] at H
          have c33b0 : decide (x6_3 < (wrap64 (576 + t288))) = false := decide_eq_false c33
          clear c33
          simp only [Option.some.injEq, Prod.mk.injEq] at H
          obtain ⟨rfl, rfl⟩ := H
          go_wp2
          go_ret
          exact ⟨_, by first | rfl | (simp [errW_none, errW_some] <;> rfl) | (simp [*, errW_none, errW_some] <;> rfl), by (with_reducible repeat (first | apply Kd.R_alloc | apply Kd.R_drewN | apply Kd.R_drew)); exact HO_4.out, by repeat (first | (with_reducible first | exact HI0.out | apply IsS92.alloc | apply IsS92.drewN | apply IsS92.drew | apply IsS92.set_1) | exact HI0.out), by repeat (first | (with_reducible first | exact HB.out | apply below_alloc | apply pw_below_drewN | apply below_drew1 | refine below_set ?_ (IsS92.ge HI0.out)) | exact HB.out), by repeat (first | (with_reducible first | exact HK.out | apply KeepBut.set_ | apply keep_drewN | apply keep_drew | apply keep_alloc) | exact HK.out)⟩
      ·rw [if_neg c28] at H
       exact absurd H (by simp)
     ·replace c26 := Bool.eq_false_iff.mpr c26
      subst c26
      have H1 : (some (x4_12, t287)) = some (r1, r2) := by rw [if_neg (show ¬ (false = true) by decide)] at H; exact H
      clear H; have H := H1; clear H1
      simp only [Option.some.injEq, Prod.mk.injEq] at H
      obtain ⟨rfl, rfl⟩ := H
      go_wp2_with (first | ((with_reducible refine gate_callee (f := 67) rfl ?_); refine gL_ (some 33) Try.func67 #[.pointer (some ⟨g, 0, none⟩), .int .i64 40] ?_; (with_reducible refine (spec_l1Rd_once.calls g s0_0 x1001_12 40 false t287 w0 _ ?side1 ?side2 A25.out).mono ?_); (case side1 => repeat (first | (with_reducible first | exact HI0.out | apply IsS92.alloc | apply IsS92.drewN | apply IsS92.drew | apply IsS92.set_1) | exact HI0.out)); (case side2 => repeat (first | (with_reducible first | exact HB.out | apply below_alloc | apply pw_below_drewN | apply below_drew1 | refine below_set ?_ (IsS92.ge HI0.out)) | exact HB.out)); rintro e w36 ⟨rfl, hi, hb, hk⟩; refine ⟨_, rfl, ?_⟩; replace HO_4 := Aside0.mk (Kd.R_mono (Kd.R_keep (IsS92.apart (show IsS92 w0 _ g s0_0 x1001_12 from by repeat (first | (with_reducible first | exact HI0.out | apply IsS92.alloc | apply IsS92.drewN | apply IsS92.drew | apply IsS92.set_1) | exact HI0.out)) (rT_ HO_4) (by decide)) hk (fun _ h => h.2)) (fun _ h => h.1)); replace HK := Aside0.mk (KeepBut.trans (by repeat (first | (with_reducible first | exact HK.out | apply KeepBut.set_ | apply keep_drewN | apply keep_drew | apply keep_alloc) | exact HK.out)) hk (.inl rfl)); replace HB := Aside0.mk (hb); replace HI0 := Aside0.mk (hi); (try clear hb); (try clear hb2); (try clear hk); (try clear hi)))
      go_ret
      exact ⟨_, by first | rfl | (simp [errW_none, errW_some] <;> rfl) | (simp [*, errW_none, errW_some] <;> rfl), by (with_reducible repeat (first | apply Kd.R_alloc | apply Kd.R_drewN | apply Kd.R_drew)); exact HO_4.out, by repeat (first | (with_reducible first | exact HI0.out | apply IsS92.alloc | apply IsS92.drewN | apply IsS92.drew | apply IsS92.set_1) | exact HI0.out), by repeat (first | (with_reducible first | exact HB.out | apply below_alloc | apply pw_below_drewN | apply below_drew1 | refine below_set ?_ (IsS92.ge HI0.out)) | exact HB.out), by repeat (first | (with_reducible first | exact HK.out | apply KeepBut.set_ | apply keep_drewN | apply keep_drew | apply keep_alloc) | exact HK.out)⟩

/-! ### spec_l13DrawRain: function 52 -/
def spec_l13DrawRain.l0 : Nat → List Int → List Int → Int → List Int → Int → Option (List Int × Int)
 | 0, _, _, _, _, _ => none
 | k + 1, x1, x5, x6, x1000, x1001 => if x6 < (x1.length : Int) then ((spec_l1Rd_below.f x1000 x1001 30).bind fun bt299 => (if x5.length < 17592186044416 then (spec_l13DrawRain.l0 k x1 (x5 ++ [bt299.1]) (wrap64 (x6 + 1)) x1000 bt299.2) else (none))) else (some (x5, x1001))
def spec_l13DrawRain.f (k : Nat) (s0_0 : List Int) (s0_1 : Int) (l1 : List Int) : Option (List Int × Int) := spec_l13DrawRain.l0 k l1 (([] : List Int)) 0 s0_0 s0_1
theorem spec_l13DrawRain.mono_l : ∀ k, (∀ y0 y1 y2 y3 y4, LeO (spec_l13DrawRain.l0 k y0 y1 y2 y3 y4) (spec_l13DrawRain.l0 (k + 1) y0 y1 y2 y3 y4))
 | 0 => fun _ _ _ _ _ r h => by simp [spec_l13DrawRain.l0] at h
 | k + 1 => by
  have ih0 := spec_l13DrawRain.mono_l k
  ·intro y0 y1 y2 y3 y4
   unfold spec_l13DrawRain.l0
   repeat' first
   | (with_reducible exact ih0 _ _ _ _ _)
   | (with_reducible exact LeO.refl _)
   | (with_reducible exact LeO.none _)
   | (with_reducible refine LeO.ite ?_ ?_)
   | (with_reducible refine LeO.bind ?_ (fun _ => ?_))
   | exact ih0 _ _ _ _ _
   | exact LeO.none _
   | refine LeO.ite ?_ ?_
   | refine LeO.bind ?_ (fun _ => ?_)
theorem spec_l13DrawRain.mono : ∀ a0 a1 a2 k, LeO (spec_l13DrawRain.f k a0 a1 a2) (spec_l13DrawRain.f (k + 1) a0 a1 a2) := by
 intro a0 a1 a2 k
 have ih0 := spec_l13DrawRain.mono_l k
 unfold spec_l13DrawRain.f
 repeat' first
   | (with_reducible exact ih0 _ _ _ _ _)
   | (with_reducible exact LeO.refl _)
   | (with_reducible exact LeO.none _)
   | (with_reducible refine LeO.ite ?_ ?_)
   | (with_reducible refine LeO.bind ?_ (fun _ => ?_))
   | exact ih0 _ _ _ _ _
   | exact LeO.none _
   | refine LeO.ite ?_ ?_
   | refine LeO.bind ?_ (fun _ => ?_)
set_option maxHeartbeats 8000000 in
set_option maxRecDepth 100000 in
theorem spec_l13DrawRain.calls (k : Nat) (g : Nat) (s0_0 : List Int) (s0_1 : Int) (A1 : Option Addr) (c1 : Nat) (l1 : List Int) (r1 : List Int) (r2 : Int) (w0 w : World) (hI : IsS92 w0 w g s0_0 s0_1) (hB : Below w0.heap.size w0 w) (hr1 : Kd.C (Kd.int .i64) w A1 l1.length l1) (hc1 : l1.length ≤ c1) (hf1 : ∀ ad, A1 = some ad → 0 < l1.length → ad.block ≠ g) (h : spec_l13DrawRain.f k s0_0 s0_1 l1 = some (r1, r2)) :
  Calls Try.prog 52 #[.pointer (some ⟨g, 0, none⟩), .slice A1 l1.length c1] w fun e w' => ∃ v0_ : Value, e = .returned (v0_) ∧ Kd.R (Kd.int .i64) 2 w' w.heap.size (fun _ => True) v0_ r1 ∧ IsS92 w0 w' g s0_0 r2 ∧ Below w0.heap.size w0 w' ∧ KeepBut w w' g none := by
 have HR1 := Aside0.mk hr1; have HC1 := Aside0.mk hc1; clear hr1 hc1; have HI0 := Aside0.mk hI
 have HK := Aside0.mk (KeepBut.refl w g none)
 have HL := Aside0.mk hB.size; clear hI; have HW0 := Aside0.mk hB.size; have HB := Aside0.mk hB; clear hB
 have H : (spec_l13DrawRain.l0 k l1 (([] : List Int)) 0 s0_0 s0_1) = some (r1, r2) := h
 clear h
 obtain ⟨y296, hy296⟩ : ∃ y_ : List Int, y_ = (([] : List Int)) := ⟨_, rfl⟩
 replace H : (spec_l13DrawRain.l0 k l1 y296 0 s0_0 s0_1) = some (r1, r2) := by first | (rw [hy296]; with_reducible exact H) | (have H2_ := (Option.bind_some _ _).symm.trans H; rw [hy296]; with_reducible exact H2_) | (have H2_ := (Option.bind_some _ _).symm.trans H; with_reducible exact H2_) | with_reducible exact H | (rw [hy296]; exact H) | exact H
 have Ny296 := Aside0.mk hy296; clear hy296; have H' := Aside0.mk H; clear H
 go_enter Try.func52, Try.ntmps52
 go_wp2_with (first | ((with_reducible refine gate_dst (N := 7) rfl ?_); refine Kd.R_lit (Kd.int .i64) _ 2 ?hg (N := 7) ?hd (xs := ([] : List Int)) (inner := []) (ok := fun _ => True) (okp := fun _ => True) ?hr ?hp (fun _ hk => hk) trivial (Below.refl _ _) (Nat.le_refl _) (by simp) ?_; (case hd => rfl); (case hg => rfl); (case hr => first | (go_simp; done) | (go_simp; rfl)); (case hp => exact (Reps.none _ _)); intro v297 w3 ho4 hb hg_ hnew_; clear hg_ hnew_; (first | rw [← Ny296.out] at ho4 | (simp only [Int.reduceToNat] at ho4; rw [← Ny296.out] at ho4)); have HO298 := Aside0.mk (Kd.R_lower ho4 (keep_size (w := w) (g := g) (row := none) (by repeat (first | (with_reducible first | exact HK.out | apply KeepBut.set_ | apply keep_drewN | apply keep_drew | apply keep_alloc) | exact HK.out)))); replace HK := Aside0.mk (KeepBut.trans (by repeat (first | (with_reducible first | exact HK.out | apply KeepBut.set_ | apply keep_drewN | apply keep_drew | apply keep_alloc) | exact HK.out)) (KeepBut.of_below hb g none) (.inl rfl)); replace HB := Aside0.mk (below_step (by repeat (first | (with_reducible first | exact HB.out | apply below_alloc | apply pw_below_drewN | apply below_drew1 | refine below_set ?_ (IsS92.ge HI0.out)) | exact HB.out)) hb); replace HI0 := Aside0.mk (IsS92.below (by repeat (first | (with_reducible first | exact HI0.out | apply IsS92.alloc | apply IsS92.drewN | apply IsS92.drew | apply IsS92.set_1) | exact HI0.out)) hb); clear hb ho4))
 go_loopg [5, 6] k (fun kq v5 v6 w' => ∃ (x5_1 : List Int) (x6_1 : Int) (x1001_1 : Int), v6 = .int .i64 x6_1 ∧ Aside0 (spec_l13DrawRain.l0 kq l1 x5_1 x6_1 s0_0 x1001_1 = some (r1, r2)) ∧ Aside0 (kq ≤ k) ∧ Aside0 (Kd.R (Kd.int .i64) 2 w' w.heap.size (fun _ => True) v5 x5_1) ∧ Aside0 (IsS92 w0 w' g s0_0 x1001_1) ∧ Aside0 (KeepBut w w' g none) ∧ Aside0 (Below w0.heap.size w0 w'))
 case atStart => exact ⟨(y296), (0), (s0_1), (by first | rfl | (simp; done) | (simp [*]; done)), H', ⟨Nat.le_refl _⟩, ⟨by (with_reducible repeat (first | apply Kd.R_alloc | apply Kd.R_drewN | apply Kd.R_drew)); exact HO298.out⟩, ⟨by repeat (first | (with_reducible first | exact HI0.out | apply IsS92.alloc | apply IsS92.drewN | apply IsS92.drew | apply IsS92.set_1) | exact HI0.out)⟩, ⟨by repeat (first | (with_reducible first | exact HK.out | apply KeepBut.set_ | apply keep_drewN | apply keep_drew | apply keep_alloc) | exact HK.out)⟩, ⟨by repeat (first | (with_reducible first | exact HB.out | apply below_alloc | apply pw_below_drewN | apply below_drew1 | refine below_set ?_ (IsS92.ge HI0.out)) | exact HB.out)⟩⟩
 case round =>
  clear H'; (try clear c1); (try clear p2)
  obtain ⟨x5_1, x6_1, x1001_1, rfl, HA, HK1, HO_5, HI0, HK, HB⟩ := hrel
  cases gk with
  | zero => exact absurd HA.out (by simp [spec_l13DrawRain.l0])
  | succ k1 =>
   have H := HA.out; clear HA
   simp only [spec_l13DrawRain.l0] at H
   by_cases c5 : x6_1 < (l1.length : Int)
   ·rw [if_pos c5] at H
    have c5b0 : decide (x6_1 < (l1.length : Int)) = true := decide_eq_true c5
    clear c5; replace H := Option.bind_eq_some_iff.mp H
    obtain ⟨⟨t299, t300⟩, A60, H⟩ := H
    replace H : (if x5_1.length < 17592186044416 then (spec_l13DrawRain.l0 k1 l1 (x5_1 ++ [t299]) (wrap64 (x6_1 + 1)) s0_0 t300) else (none)) = some (r1, r2) := H
    have A6 := Aside0.mk A60; clear A60
    by_cases c7 : x5_1.length < 17592186044416
    ·rw [if_pos c7] at H
     have LMc7 := Aside0.mk c7; clear c7
     obtain ⟨y301, hy301⟩ : ∃ y_ : List Int, y_ = (x5_1 ++ [t299]) := ⟨_, rfl⟩
     replace H : (spec_l13DrawRain.l0 k1 l1 y301 (wrap64 (x6_1 + 1)) s0_0 t300) = some (r1, r2) := by first | (rw [hy301]; with_reducible exact H) | (have H2_ := (Option.bind_some _ _).symm.trans H; rw [hy301]; with_reducible exact H2_) | (have H2_ := (Option.bind_some _ _).symm.trans H; with_reducible exact H2_) | with_reducible exact H | (rw [hy301]; exact H) | exact H
     have Ny301 := Aside0.mk hy301; clear hy301; have H' := Aside0.mk H; clear H
     go_wp2_with (first | ((with_reducible refine gate_callee (f := 53) rfl ?_); refine gL_ (some 16) Try.func53 #[.pointer (some ⟨g, 0, none⟩), .int .i64 30] ?_; (with_reducible refine (spec_l1Rd_below.calls g s0_0 x1001_1 30 t299 t300 w0 _ ?side1 ?side2 A6.out).mono ?_); (case side1 => repeat (first | (with_reducible first | exact HI0.out | apply IsS92.alloc | apply IsS92.drewN | apply IsS92.drew | apply IsS92.set_1) | exact HI0.out)); (case side2 => repeat (first | (with_reducible first | exact HB.out | apply below_alloc | apply pw_below_drewN | apply below_drew1 | refine below_set ?_ (IsS92.ge HI0.out)) | exact HB.out)); rintro e w8 ⟨rfl, hi, hb, hk⟩; refine ⟨_, rfl, ?_⟩; replace HO_5 := Aside0.mk (Kd.R_mono (Kd.R_keep (IsS92.apart (show IsS92 w0 _ g s0_0 x1001_1 from by repeat (first | (with_reducible first | exact HI0.out | apply IsS92.alloc | apply IsS92.drewN | apply IsS92.drew | apply IsS92.set_1) | exact HI0.out)) (rT_ HO_5) (by decide)) hk (fun _ h => h.2)) (fun _ h => h.1)); replace HK := Aside0.mk (KeepBut.trans (by repeat (first | (with_reducible first | exact HK.out | apply KeepBut.set_ | apply keep_drewN | apply keep_drew | apply keep_alloc) | exact HK.out)) hk (.inl rfl)); replace HB := Aside0.mk (hb); replace HI0 := Aside0.mk (hi); (try clear hb); (try clear hb2); (try clear hk); (try clear hi)) | ((with_reducible refine gate_builtin (b := .append) (xs := #[.tmp 14, .tmp 17]) rfl ?_); at_builtin; refine Kd.R_append (Kd.int .i64) w.heap.size rfl (.tmp 14) (.tmp 17) 22 2 (.int .i64 0) 8 rfl Try.underlying22 info2 rfl (by decide) (by omega) u5 x5_1 t299 [.int .i64 t299] (fun _ => True) (fun _ => False) rfl rfl ?aP (fun _ hk => hk.elim) ?aF ?aO (Below.refl _ _) ?aS ?aL ?_; (case aP => exact rfl); (case aF => exact (fun _ _ => trivial)); (case aO => exact (rT_ HO_5)); (case aS => exact (keep_size (w := w) (g := g) (row := none) (by repeat (first | (with_reducible first | exact HK.out | apply KeepBut.set_ | apply keep_drewN | apply keep_drew | apply keep_alloc) | exact HK.out)))); (case aL => have := LMc7.out; omega); intro v302 w9 ho hb hg hat; rw [← Ny301.out] at ho; replace HB := Aside0.mk (below_weaken (by repeat (first | (with_reducible first | exact HB.out | apply below_alloc | apply pw_below_drewN | apply below_drew1 | refine below_set ?_ (IsS92.ge HI0.out)) | exact HB.out)) HL.out hb); replace HI0 := Aside0.mk (IsS92.grown (by repeat (first | (with_reducible first | exact HI0.out | apply IsS92.alloc | apply IsS92.drewN | apply IsS92.drew | apply IsS92.set_1) | exact HI0.out)) hg (IsS92.own_ne HI0.out HO_5.out (by decide))); replace HK := Aside0.mk (KeepBut.trans (by repeat (first | (with_reducible first | exact HK.out | apply KeepBut.set_ | apply keep_drewN | apply keep_drew | apply keep_alloc) | exact HK.out)) (KeepBut.of_grown hg g) (Kd.R_base2 HO_5.out)); have HO303 := Aside0.mk (ho); clear HO_5; clear ho hb hg hat))
     go_roundg k1
     case measure => have := HK1.out; omega
     case rel => exact ⟨(y301), (wrap64 (x6_1 + 1)), (t300), (by first | rfl | (simp; done) | (simp [*]; done)), H', ⟨by have := HK1.out; omega⟩, ⟨by (with_reducible repeat (first | apply Kd.R_alloc | apply Kd.R_drewN | apply Kd.R_drew)); exact HO303.out⟩, ⟨by repeat (first | (with_reducible first | exact HI0.out | apply IsS92.alloc | apply IsS92.drewN | apply IsS92.drew | apply IsS92.set_1) | exact HI0.out)⟩, ⟨by repeat (first | (with_reducible first | exact HK.out | apply KeepBut.set_ | apply keep_drewN | apply keep_drew | apply keep_alloc) | exact HK.out)⟩, ⟨by repeat (first | (with_reducible first | exact HB.out | apply below_alloc | apply pw_below_drewN | apply below_drew1 | refine below_set ?_ (IsS92.ge HI0.out)) | exact HB.out)⟩⟩
    ·rw [if_neg c7] at H
     exact absurd H (by simp)
   ·rw [if_neg c5] at H
    have c5b0 : decide (x6_1 < (l1.length : Int)) = false := decide_eq_false c5
    clear c5
    simp only [Option.some.injEq, Prod.mk.injEq] at H
    obtain ⟨rfl, rfl⟩ := H
    go_wp2
    go_ret
    exact ⟨_, by first | rfl | (simp [errW_none, errW_some] <;> rfl) | (simp [*, errW_none, errW_some] <;> rfl), by (with_reducible repeat (first | apply Kd.R_alloc | apply Kd.R_drewN | apply Kd.R_drew)); exact HO_5.out, by repeat (first | (with_reducible first | exact HI0.out | apply IsS92.alloc | apply IsS92.drewN | apply IsS92.drew | apply IsS92.set_1) | exact HI0.out), by repeat (first | (with_reducible first | exact HB.out | apply below_alloc | apply pw_below_drewN | apply below_drew1 | refine below_set ?_ (IsS92.ge HI0.out)) | exact HB.out), by repeat (first | (with_reducible first | exact HK.out | apply KeepBut.set_ | apply keep_drewN | apply keep_drew | apply keep_alloc) | exact HK.out)⟩

end Go.Proofs.Ytopfdmodbhopiaa.QFnWaterBook
