-- Written by a program of this session out of the printer's texts and contracts of its own.
import Derived.Test.YtmjfmhbklifafaaSq
import Derived.Test.YtmjfmhbklifafaaQFnSteadyx0
import Derived.Test.YtmjfmhbklifafaaQFnSteadyx1
namespace Go.Proofs.Ytmjfmhbklifafaa.QFnSteady
open Go.RowKit Go.Proofs.YtmjfmhbklifafaaW.PrintWords Go.Proofs.YtmjfmhbklifafaaW.PrintLast Go.Proofs.YtmjfmhbklifafaaW.PrintMore Go.Proofs.Ytmjfmhbklifafaa.Sq
attribute [local go_sem] max2_int min2_int max_two min_two max_three min_three max_four min_four   -- for this text's walks alone
set_option linter.unusedVariables false
set_option linter.unusedSimpArgs false

/-! ### spec_DrawLevels: function 16 -/
mutual
def spec_DrawLevels.l0 : Nat → List Int → Int → Int → List Int → Int → Option (List Int × List Int × List Int × Int)
 | 0, _, _, _, _, _ => none
 | k + 1, x7, x8, x9, x163000, x163001 => if x9 < x8 then ((spec_l1Rd_below.f x163000 x163001 50).bind fun bt168 => (if x7.length < 17592186044416 then (spec_DrawLevels.l0 k (x7 ++ [bt168.1]) x8 (wrap64 (x9 + 1)) x163000 bt168.2) else (none))) else ((some (([10, 20, 30, 40] : List Int) : List Int)).bind fun y173 => ((spec_l1Rd_below.f x163000 x163001 4).bind fun bt176 => (if 0 ≤ (wrap64 (1 + bt176.1)) then (if (wrap64 (1 + bt176.1)) ≤ (y173.length : Int) then (spec_DrawLevels.l1 k x7 (y173.take ((wrap64 (1 + bt176.1)) : Int).toNat) (([] : List Int)) 0 x163000 bt176.2) else (none)) else (none))))
def spec_DrawLevels.l1 : Nat → List Int → List Int → List Int → Int → List Int → Int → Option (List Int × List Int × List Int × Int)
 | 0, _, _, _, _, _, _ => none
 | k + 1, x7, x10, x11, x12, x163000, x163001 => if x12 < (x10.length : Int) then (if 0 ≤ x12 then ((spec_l1Rd_below.f x163000 x163001 14).bind fun bt185 => (if x11.length < 17592186044416 then (spec_DrawLevels.l1 k x7 x10 (x11 ++ [wrap64 ((rd x10 x12) - bt185.1)]) (wrap64 (x12 + 1)) x163000 bt185.2) else (none))) else (none)) else ((spec_l1Rd_below.f x163000 x163001 4).bind fun bt190 => ((spec_l1Rd_below.f x163000 bt190.2 24).bind fun bt192 => (if bt192.1 = 0 then (if 0 < (x10.length : Int) then (if 0 < (x11.length : Int) then (some (x7, x10, (x11.set (0 : Int).toNat (wrap64 ((rd x10 0) + 1))), wrap64 (1 + bt190.1))) else (none)) else (none)) else (if bt192.1 = 1 then (if 0 ≤ (wrap64 ((x10.length : Int) - 1)) then (if (wrap64 ((x10.length : Int) - 1)) < (x10.length : Int) then (if x10.length < 17592186044416 then (if x11.length < 17592186044416 then (some (x7, (x10 ++ [rd x10 (wrap64 ((x10.length : Int) - 1))]), (x11 ++ [0]), wrap64 (1 + bt190.1))) else (none)) else (none)) else (none)) else (none)) else (if bt192.1 = 2 then ((some (([0, 100, 101] : List Int) : List Int)).bind fun y203 => ((spec_l1Rd_below.f x163000 bt192.2 3).bind fun bt206 => (if 0 ≤ bt206.1 then (if bt206.1 < (y203.length : Int) then (some (x7, x10, x11, rd y203 bt206.1)) else (none)) else (none)))) else (if bt192.1 = 3 then ((spec_l19Draw.f k x163000 bt192.2).bind fun bt209 => (some (bt209.1, x10, x11, wrap64 (1 + bt190.1)))) else (if bt192.1 = 4 then (if 0 ≤ (x10.length : Int) then (if 0 ≤ (x11.length : Int) then (some (x7, (x10.take (0 : Int).toNat), (x11.take (0 : Int).toNat), wrap64 (1 + bt190.1))) else (none)) else (none)) else (some (x7, x10, x11, wrap64 (1 + bt190.1))))))))))
end
def spec_DrawLevels.f (k : Nat) (l0 : List Int) : Option (List Int × List Int × List Int × Int) := (spec_l1Open.f l0).bind fun bt160 => ((spec_l1Rd_size.f bt160.1 bt160.2 3 40).bind fun bt166 => (spec_DrawLevels.l0 k (([] : List Int)) bt166.1 0 bt160.1 bt166.2))
theorem spec_DrawLevels.mono_l : ∀ k, (∀ y0 y1 y2 y3 y4, LeO (spec_DrawLevels.l0 k y0 y1 y2 y3 y4) (spec_DrawLevels.l0 (k + 1) y0 y1 y2 y3 y4)) ∧ (∀ y0 y1 y2 y3 y4 y5, LeO (spec_DrawLevels.l1 k y0 y1 y2 y3 y4 y5) (spec_DrawLevels.l1 (k + 1) y0 y1 y2 y3 y4 y5))
 | 0 => ⟨fun _ _ _ _ _ r h => by simp [spec_DrawLevels.l0] at h, fun _ _ _ _ _ _ r h => by simp [spec_DrawLevels.l1] at h⟩
 | k + 1 => by
  obtain ⟨ih0, ih1⟩ := spec_DrawLevels.mono_l k
  refine ⟨?_, ?_⟩
  intro y0 y1 y2 y3 y4; unfold spec_DrawLevels.l0; rotate_left
  intro y0 y1 y2 y3 y4 y5; unfold spec_DrawLevels.l1; rotate_left
  all_goals repeat' first
  | (with_reducible exact ih0 _ _ _ _ _)
  | (with_reducible exact ih1 _ _ _ _ _ _)
  | (with_reducible exact spec_l19Draw.mono _ _ _)
  | (with_reducible exact LeO.refl _)
  | (with_reducible exact LeO.none _)
  | (with_reducible refine LeO.ite ?_ ?_)
  | (with_reducible refine LeO.bind ?_ (fun _ => ?_))
  | exact ih0 _ _ _ _ _
  | exact ih1 _ _ _ _ _ _
  | exact spec_l19Draw.mono _ _ _
  | exact LeO.none _
  | refine LeO.ite ?_ ?_
  | refine LeO.bind ?_ (fun _ => ?_)
theorem spec_DrawLevels.mono : ∀ a0 k, LeO (spec_DrawLevels.f k a0) (spec_DrawLevels.f (k + 1) a0) := by
 intro a0 k
 obtain ⟨ih0, ih1⟩ := spec_DrawLevels.mono_l k
 unfold spec_DrawLevels.f
 repeat' first
   | (with_reducible exact ih0 _ _ _ _ _)
   | (with_reducible exact ih1 _ _ _ _ _ _)
   | (with_reducible exact spec_l19Draw.mono _ _ _)
   | (with_reducible exact LeO.refl _)
   | (with_reducible exact LeO.none _)
   | (with_reducible refine LeO.ite ?_ ?_)
   | (with_reducible refine LeO.bind ?_ (fun _ => ?_))
   | exact ih0 _ _ _ _ _
   | exact ih1 _ _ _ _ _ _
   | exact spec_l19Draw.mono _ _ _
   | exact LeO.none _
   | refine LeO.ite ?_ ?_
   | refine LeO.bind ?_ (fun _ => ?_)
def spec_DrawLevels.T13 : Bool × List (List Nat × List Nat) := (true, [([], []), ([], []), ([], []), ([1, 2], [1, 2]), ([3], [3]), ([], []), ([5], [5]), ([4, 6], [4, 6]), ([7], [7]), ([0, 8, 6], [0, 8]), ([9, 9, 0, 1, 2, 3, 4, 5, 6, 7, 8, 9], [0, 9])])
def spec_DrawLevels.B13 : List Nat := [0, 0, 0, 6, 14, 0, 32, 126, 254, 511, 1023]
theorem spec_DrawLevels.tab13 : rtab .any (opsOf Try.f16 13) = spec_DrawLevels.T13 := by kernel_rfl
theorem spec_DrawLevels.bits13 : waitsOk spec_DrawLevels.T13.2 spec_DrawLevels.B13 = true := by kernel_rfl
theorem ob_ {A : Option Addr} {n m c : Nat} {k : Nat} (h : some k ≠ (Value.slice A n c).ownBlock) : some k ≠ (Value.slice A m c).ownBlock := by cases A <;> exact h
set_option maxHeartbeats 8000000 in
set_option maxRecDepth 100000 in
theorem spec_DrawLevels.calls (k : Nat) (A0 : Option Addr) (c0 : Nat) (l0 : List Int) (r1 : List Int) (r2 : List Int) (r3 : List Int) (r4 : Int) (w : World) (hr0 : Kd.C (Kd.int .u8) w A0 l0.length l0) (hc0 : l0.length ≤ c0) (h : spec_DrawLevels.f k l0 = some (r1, r2, r3, r4)) :
  Calls Try.prog 16 #[.slice A0 l0.length c0] w fun e w' => ∃ v0_ v1_ v2_ : Value, e = .returned (.tuple #[v0_, v1_, v2_, .int .i64 r4]) ∧ Kd.R (Kd.int .i64) 2 w' w.heap.size (fun k_ => some k_ ≠ (v1_ : Value).ownBlock ∧ some k_ ≠ (v2_ : Value).ownBlock) v0_ r1 ∧ Kd.R (Kd.int .i64) 2 w' w.heap.size (fun k_ => some k_ ≠ (v0_ : Value).ownBlock ∧ some k_ ≠ (v2_ : Value).ownBlock) v1_ r2 ∧ Kd.R (Kd.int .i64) 2 w' w.heap.size (fun k_ => some k_ ≠ (v0_ : Value).ownBlock ∧ some k_ ≠ (v1_ : Value).ownBlock) v2_ r3 ∧ Below w.heap.size w w' := by
 have HR0 := Aside0.mk hr0; have HC0 := Aside0.mk hc0; clear hr0 hc0
 have HB := Aside0.mk (Below.refl w.heap.size w)
 have H : ((spec_l1Open.f l0).bind fun bt160 => ((spec_l1Rd_size.f bt160.1 bt160.2 3 40).bind fun bt166 => (spec_DrawLevels.l0 k (([] : List Int)) bt166.1 0 bt160.1 bt166.2))) = some (r1, r2, r3, r4) := h
 clear h; replace H := Option.bind_eq_some_iff.mp H
 obtain ⟨⟨t160, t161⟩, A20, H⟩ := H
 replace H : ((spec_l1Rd_size.f t160 t161 3 40).bind fun bt166 => (spec_DrawLevels.l0 k (([] : List Int)) bt166.1 0 t160 bt166.2)) = some (r1, r2, r3, r4) := H
 have A2 := Aside0.mk A20; clear A20
 obtain ⟨y163, hy163⟩ : ∃ y_ : List Int, y_ = (([] : List Int)) := ⟨_, rfl⟩
 replace H : ((spec_l1Rd_size.f t160 t161 3 40).bind fun bt166 => (spec_DrawLevels.l0 k y163 bt166.1 0 t160 bt166.2)) = some (r1, r2, r3, r4) := by first | (rw [hy163]; with_reducible exact H) | (have H2_ := (Option.bind_some _ _).symm.trans H; rw [hy163]; with_reducible exact H2_) | (have H2_ := (Option.bind_some _ _).symm.trans H; with_reducible exact H2_) | with_reducible exact H | (rw [hy163]; exact H) | exact H
 have Ny163 := Aside0.mk hy163; clear hy163; replace H := Option.bind_eq_some_iff.mp H
 obtain ⟨⟨t166, t167⟩, A30, H⟩ := H
 replace H : (spec_DrawLevels.l0 k y163 t166 0 t160 t167) = some (r1, r2, r3, r4) := H
 have A3 := Aside0.mk A30; clear A30; have H' := Aside0.mk H; clear H
 go_enter Try.func16, Try.ntmps16
 go_wp2_with (first | ((with_reducible refine gate_callee (f := 26) rfl ?_); refine gL_ (some 15) Try.func26 #[.slice A0 l0.length c0] ?_; (with_reducible refine (spec_l1Open.calls _ _ l0 t160 t161 w _ ?side1 ?side2 ?side3 A2.out).mono ?_); (case side1 => repeat (first | (with_reducible first | exact HB.out | apply below_alloc | apply pw_below_drewN | apply below_drew1) | exact HB.out)); (case side2 => exact HR0.out); (case side3 => exact HC0.out); rintro e w4 ⟨g162, rfl, hi, hb, hb2⟩; refine ⟨_, rfl, ?_⟩; replace HB := Aside0.mk (hb); have HI162 := Aside0.mk (hi); (try clear hb); (try clear hb2); (try clear hk); (try clear hi)) | ((with_reducible refine gate_dst (N := 16) rfl ?_); refine Kd.R_lit (Kd.int .i64) _ 2 ?hg (N := 16) ?hd (xs := ([] : List Int)) (inner := []) (ok := fun _ => True) (okp := fun _ => True) ?hr ?hp (fun _ hk => hk) trivial (Below.refl _ _) (Nat.le_refl _) (by simp) ?_; (case hd => rfl); (case hg => rfl); (case hr => first | (go_simp; done) | (go_simp; rfl)); (case hp => exact (Reps.none _ _)); intro v164 w5 ho6 hb hg_ hnew_; clear hg_ hnew_; (first | rw [← Ny163.out] at ho6 | (simp only [Int.reduceToNat] at ho6; rw [← Ny163.out] at ho6)); have HO165 := Aside0.mk (Kd.R_lower ho6 (below_size (by repeat (first | (with_reducible first | exact HB.out | apply below_alloc | apply pw_below_drewN | apply below_drew1 | refine below_set ?_ (IsS59.ge HI162.out)) | exact HB.out)))); replace HB := Aside0.mk (below_step (by repeat (first | (with_reducible first | exact HB.out | apply below_alloc | apply pw_below_drewN | apply below_drew1 | refine below_set ?_ (IsS59.ge HI162.out)) | exact HB.out)) hb); replace HI162 := Aside0.mk (IsS59.below (by repeat (first | (with_reducible first | exact HI162.out | apply IsS59.alloc | apply IsS59.drewN | apply IsS59.drew | apply IsS59.set_1) | exact HI162.out)) hb); clear hb ho6) | ((with_reducible refine gate_callee (f := 36) rfl ?_); refine gL_ (some 18) Try.func36 #[.pointer (some ⟨g162, 0, none⟩), .int .i64 3, .int .i64 40] ?_; (with_reducible refine (spec_l1Rd_size.calls g162 t160 t161 3 40 t166 t167 w _ ?side1 ?side2 A3.out).mono ?_); (case side1 => repeat (first | (with_reducible first | exact HI162.out | apply IsS59.alloc | apply IsS59.drewN | apply IsS59.drew | apply IsS59.set_1) | exact HI162.out)); (case side2 => repeat (first | (with_reducible first | exact HB.out | apply below_alloc | apply pw_below_drewN | apply below_drew1 | refine below_set ?_ (IsS59.ge HI162.out)) | exact HB.out)); rintro e w7 ⟨rfl, hi, hb, hk⟩; refine ⟨_, rfl, ?_⟩; replace HO165 := Aside0.mk (Kd.R_mono (Kd.R_keep (IsS59.apart (show IsS59 w _ g162 t160 t161 from by repeat (first | (with_reducible first | exact HI162.out | apply IsS59.alloc | apply IsS59.drewN | apply IsS59.drew | apply IsS59.set_1) | exact HI162.out)) (rT_ HO165) (by decide)) hk (fun _ h => h.2)) (fun _ h => h.1)); replace HB := Aside0.mk (hb); replace HI162 := Aside0.mk (hi); (try clear hb); (try clear hb2); (try clear hk); (try clear hi)))
 go_loopg [7, 9] k (fun kq v7 v9 w' => ∃ (x7_1 : List Int) (x9_1 : Int) (x163001_1 : Int), v9 = .int .i64 x9_1 ∧ Aside0 (spec_DrawLevels.l0 kq x7_1 t166 x9_1 t160 x163001_1 = some (r1, r2, r3, r4)) ∧ Aside0 (kq ≤ k) ∧ Aside0 (Kd.R (Kd.int .i64) 2 w' w.heap.size (fun _ => True) v7 x7_1) ∧ Aside0 (IsS59 w w' g162 t160 x163001_1) ∧ Aside0 (Below w.heap.size w w'))
 case atStart => exact ⟨(y163), (0), (t167), (by first | rfl | (simp; done) | (simp [*]; done)), H', ⟨Nat.le_refl _⟩, ⟨by (with_reducible repeat (first | apply Kd.R_alloc | apply Kd.R_drewN | apply Kd.R_drew)); exact HO165.out⟩, ⟨by repeat (first | (with_reducible first | exact HI162.out | apply IsS59.alloc | apply IsS59.drewN | apply IsS59.drew | apply IsS59.set_1) | exact HI162.out)⟩, ⟨by repeat (first | (with_reducible first | exact HB.out | apply below_alloc | apply pw_below_drewN | apply below_drew1 | refine below_set ?_ (IsS59.ge HI162.out)) | exact HB.out)⟩⟩
 case round =>
  clear H'; (try clear c1); (try clear c2); (try clear p2); (try clear c3)
  obtain ⟨x7_1, x9_1, x163001_1, rfl, HA, HK1, HO_7, HI162, HB⟩ := hrel
  cases gk with
  | zero => exact absurd HA.out (by simp [spec_DrawLevels.l0])
  | succ k1 =>
   have H := HA.out; clear HA
   simp only [spec_DrawLevels.l0] at H
   by_cases c8 : x9_1 < t166
   ·rw [if_pos c8] at H
    have c8b0 : decide (x9_1 < t166) = true := decide_eq_true c8
    clear c8; replace H := Option.bind_eq_some_iff.mp H
    obtain ⟨⟨t168, t169⟩, A90, H⟩ := H
    replace H : (if x7_1.length < 17592186044416 then (spec_DrawLevels.l0 k1 (x7_1 ++ [t168]) t166 (wrap64 (x9_1 + 1)) t160 t169) else (none)) = some (r1, r2, r3, r4) := H
    have A9 := Aside0.mk A90; clear A90
    by_cases c10 : x7_1.length < 17592186044416
    ·rw [if_pos c10] at H
     have LMc10 := Aside0.mk c10; clear c10
     obtain ⟨y170, hy170⟩ : ∃ y_ : List Int, y_ = (x7_1 ++ [t168]) := ⟨_, rfl⟩
     replace H : (spec_DrawLevels.l0 k1 y170 t166 (wrap64 (x9_1 + 1)) t160 t169) = some (r1, r2, r3, r4) := by first | (rw [hy170]; with_reducible exact H) | (have H2_ := (Option.bind_some _ _).symm.trans H; rw [hy170]; with_reducible exact H2_) | (have H2_ := (Option.bind_some _ _).symm.trans H; with_reducible exact H2_) | with_reducible exact H | (rw [hy170]; exact H) | exact H
     have Ny170 := Aside0.mk hy170; clear hy170; have H' := Aside0.mk H; clear H
     go_wp2_with (first | ((with_reducible refine gate_callee (f := 37) rfl ?_); refine gL_ (some 26) Try.func37 #[.pointer (some ⟨g162, 0, none⟩), .int .i64 50] ?_; (with_reducible refine (spec_l1Rd_below.calls g162 t160 x163001_1 50 t168 t169 w _ ?side1 ?side2 A9.out).mono ?_); (case side1 => repeat (first | (with_reducible first | exact HI162.out | apply IsS59.alloc | apply IsS59.drewN | apply IsS59.drew | apply IsS59.set_1) | exact HI162.out)); (case side2 => repeat (first | (with_reducible first | exact HB.out | apply below_alloc | apply pw_below_drewN | apply below_drew1 | refine below_set ?_ (IsS59.ge HI162.out)) | exact HB.out)); rintro e w11 ⟨rfl, hi, hb, hk⟩; refine ⟨_, rfl, ?_⟩; replace HO_7 := Aside0.mk (Kd.R_mono (Kd.R_keep (IsS59.apart (show IsS59 w _ g162 t160 x163001_1 from by repeat (first | (with_reducible first | exact HI162.out | apply IsS59.alloc | apply IsS59.drewN | apply IsS59.drew | apply IsS59.set_1) | exact HI162.out)) (rT_ HO_7) (by decide)) hk (fun _ h => h.2)) (fun _ h => h.1)); replace HB := Aside0.mk (hb); replace HI162 := Aside0.mk (hi); (try clear hb); (try clear hb2); (try clear hk); (try clear hi)) | ((with_reducible refine gate_builtin (b := .append) (xs := #[.tmp 24, .tmp 27]) rfl ?_); at_builtin; refine Kd.R_append (Kd.int .i64) (w0 := w) w.heap.size rfl (.tmp 24) (.tmp 27) 24 2 (.int .i64 0) 8 rfl Try.underlying24 info2 rfl (by decide) (by omega) u7 x7_1 t168 [.int .i64 t168] (fun _ => True) (fun _ => False) rfl rfl ?aP (fun _ hk => hk.elim) ?aF ?aO ?aB ?aS ?aL ?_; (case aP => exact rfl); (case aB => exact (by repeat (first | (with_reducible first | exact HB.out | apply below_alloc | apply pw_below_drewN | apply below_drew1 | refine below_set ?_ (IsS59.ge HI162.out)) | exact HB.out))); (case aF => exact (fun _ _ => trivial)); (case aO => exact (rT_ HO_7)); (case aS => exact (below_size (by repeat (first | (with_reducible first | exact HB.out | apply below_alloc | apply pw_below_drewN | apply below_drew1 | refine below_set ?_ (IsS59.ge HI162.out)) | exact HB.out)))); (case aL => have := LMc10.out; omega); intro v171 w12 ho hb hg hat; rw [← Ny170.out] at ho; replace HI162 := Aside0.mk (IsS59.grown (by repeat (first | (with_reducible first | exact HI162.out | apply IsS59.alloc | apply IsS59.drewN | apply IsS59.drew | apply IsS59.set_1) | exact HI162.out)) hg (IsS59.own_ne HI162.out HO_7.out (by decide))); replace HB := Aside0.mk (hb); have HO172 := Aside0.mk (ho); clear HO_7; clear ho hb hg hat))
     go_roundg k1
     case measure => have := HK1.out; omega
     case rel => exact ⟨(y170), (wrap64 (x9_1 + 1)), (t169), (by first | rfl | (simp; done) | (simp [*]; done)), H', ⟨by have := HK1.out; omega⟩, ⟨by (with_reducible repeat (first | apply Kd.R_alloc | apply Kd.R_drewN | apply Kd.R_drew)); exact HO172.out⟩, ⟨by repeat (first | (with_reducible first | exact HI162.out | apply IsS59.alloc | apply IsS59.drewN | apply IsS59.drew | apply IsS59.set_1) | exact HI162.out)⟩, ⟨by repeat (first | (with_reducible first | exact HB.out | apply below_alloc | apply pw_below_drewN | apply below_drew1 | refine below_set ?_ (IsS59.ge HI162.out)) | exact HB.out)⟩⟩
    ·rw [if_neg c10] at H
     exact absurd H (by simp)
   ·rw [if_neg c8] at H
    have c8b0 : decide (x9_1 < t166) = false := decide_eq_false c8
    clear c8
    obtain ⟨y173, hy173⟩ : ∃ y_ : List Int, y_ = (([10, 20, 30, 40] : List Int)) := ⟨_, rfl⟩
    replace H : ((spec_l1Rd_below.f t160 x163001_1 4).bind fun bt176 => (if 0 ≤ (wrap64 (1 + bt176.1)) then (if (wrap64 (1 + bt176.1)) ≤ (y173.length : Int) then (spec_DrawLevels.l1 k1 x7_1 (y173.take ((wrap64 (1 + bt176.1)) : Int).toNat) (([] : List Int)) 0 t160 bt176.2) else (none)) else (none))) = some (r1, r2, r3, r4) := by first | (rw [hy173]; with_reducible exact H) | (have H2_ := (Option.bind_some _ _).symm.trans H; rw [hy173]; with_reducible exact H2_) | (have H2_ := (Option.bind_some _ _).symm.trans H; with_reducible exact H2_) | with_reducible exact H | (rw [hy173]; exact H) | exact H
    have Ny173 := Aside0.mk hy173; clear hy173; replace H := Option.bind_eq_some_iff.mp H
    obtain ⟨⟨t176, t177⟩, A130, H⟩ := H
    replace H : (if 0 ≤ (wrap64 (1 + t176)) then (if (wrap64 (1 + t176)) ≤ (y173.length : Int) then (spec_DrawLevels.l1 k1 x7_1 (y173.take ((wrap64 (1 + t176)) : Int).toNat) (([] : List Int)) 0 t160 t177) else (none)) else (none)) = some (r1, r2, r3, r4) := H
    have A13 := Aside0.mk A130; clear A130
    obtain ⟨ji14, hji14⟩ : ∃ j_ : Int, (wrap64 (1 + t176)) = j_ := ⟨_, rfl⟩
    replace H : (if 0 ≤ (ji14) then (if (ji14) ≤ (y173.length : Int) then (spec_DrawLevels.l1 k1 x7_1 (y173.take ((ji14) : Int).toNat) (([] : List Int)) 0 t160 t177) else (none)) else (none)) = some (r1, r2, r3, r4) := by first | (rw [hji14] at H; exact H) | (simp only [hji14] at H ⊢; exact H)
    (try rw [hji14] at A13)
    have hji14w : (IntKind.i64.wrap (1 + t176)) = ji14 := (i64_w _).trans hji14
    by_cases c15 : 0 ≤ (ji14)
    ·rw [if_pos c15] at H
     have c15b0 := eq_true c15
     have c15b1 : decide (0 ≤ (ji14)) = true := decide_eq_true c15
     clear c15
     by_cases c16 : (ji14) ≤ (y173.length : Int)
     ·rw [if_pos c16] at H
      have c16b0 := eq_true c16
      have c16b1 : decide ((ji14) ≤ (y173.length : Int)) = true := decide_eq_true c16
      clear c16
      obtain ⟨y178, hy178⟩ : ∃ y_ : List Int, y_ = (y173.take ((ji14) : Int).toNat) := ⟨_, rfl⟩
      replace H : (spec_DrawLevels.l1 k1 x7_1 y178 (([] : List Int)) 0 t160 t177) = some (r1, r2, r3, r4) := by first | (rw [hy178]; with_reducible exact H) | (have H2_ := (Option.bind_some _ _).symm.trans H; rw [hy178]; with_reducible exact H2_) | (have H2_ := (Option.bind_some _ _).symm.trans H; with_reducible exact H2_) | with_reducible exact H | (rw [hy178]; exact H) | exact H
      have Ny178 := Aside0.mk hy178; clear hy178
      obtain ⟨y181, hy181⟩ : ∃ y_ : List Int, y_ = (([] : List Int)) := ⟨_, rfl⟩
      replace H : (spec_DrawLevels.l1 k1 x7_1 y178 y181 0 t160 t177) = some (r1, r2, r3, r4) := by first | (rw [hy181]; with_reducible exact H) | (have H2_ := (Option.bind_some _ _).symm.trans H; rw [hy181]; with_reducible exact H2_) | (have H2_ := (Option.bind_some _ _).symm.trans H; with_reducible exact H2_) | with_reducible exact H | (rw [hy181]; exact H) | exact H
      have Ny181 := Aside0.mk hy181; clear hy181; have H' := Aside0.mk H; clear H
      go_wp2_with (first | ((with_reducible refine gate_dst (N := 29) rfl ?_); refine Kd.R_lit (Kd.int .i64) _ 2 ?hg (N := 29) ?hd (xs := ([10, 20, 30, 40] : List Int)) (inner := [.int .i64 10, .int .i64 20, .int .i64 30, .int .i64 40]) (ok := fun _ => True) (okp := fun _ => True) ?hr ?hp (fun _ hk => hk) trivial (Below.refl _ _) (Nat.le_refl _) (by simp) ?_; (case hd => rfl); (case hg => rfl); (case hr => first | (go_simp; done) | (go_simp; rfl)); (case hp => exact (Reps.one (show Kd.M (Kd.int .i64) _ _ _ 10 [.int .i64 10] from rfl) (Reps.one (show Kd.M (Kd.int .i64) _ _ _ 20 [.int .i64 20] from rfl) (Reps.one (show Kd.M (Kd.int .i64) _ _ _ 30 [.int .i64 30] from rfl) (Reps.one (show Kd.M (Kd.int .i64) _ _ _ 40 [.int .i64 40] from rfl) (Reps.none _ _)))))); intro v174 w17 ho18 hb hg_ hnew_; clear hg_ hnew_; (first | rw [← Ny173.out] at ho18 | (simp only [Int.reduceToNat] at ho18; rw [← Ny173.out] at ho18)); have HO175 := Aside0.mk (Kd.R_lower (rN_ ho18 HO_7) (below_size (by repeat (first | (with_reducible first | exact HB.out | apply below_alloc | apply pw_below_drewN | apply below_drew1 | refine below_set ?_ (IsS59.ge HI162.out)) | exact HB.out)))); replace HO_7 := rE_ HO_7 ho18 hb; replace HB := Aside0.mk (below_step (by repeat (first | (with_reducible first | exact HB.out | apply below_alloc | apply pw_below_drewN | apply below_drew1 | refine below_set ?_ (IsS59.ge HI162.out)) | exact HB.out)) hb); replace HI162 := Aside0.mk (IsS59.below (by repeat (first | (with_reducible first | exact HI162.out | apply IsS59.alloc | apply IsS59.drewN | apply IsS59.drew | apply IsS59.set_1) | exact HI162.out)) hb); clear hb ho18) | ((with_reducible refine gate_callee (f := 37) rfl ?_); refine gL_ (some 31) Try.func37 #[.pointer (some ⟨g162, 0, none⟩), .int .i64 4] ?_; (with_reducible refine (spec_l1Rd_below.calls g162 t160 x163001_1 4 t176 t177 w _ ?side1 ?side2 A13.out).mono ?_); (case side1 => repeat (first | (with_reducible first | exact HI162.out | apply IsS59.alloc | apply IsS59.drewN | apply IsS59.drew | apply IsS59.set_1) | exact HI162.out)); (case side2 => repeat (first | (with_reducible first | exact HB.out | apply below_alloc | apply pw_below_drewN | apply below_drew1 | refine below_set ?_ (IsS59.ge HI162.out)) | exact HB.out)); rintro e w19 ⟨rfl, hi, hb, hk⟩; refine ⟨_, rfl, ?_⟩; replace HO_7 := Aside0.mk (Kd.R_mono (Kd.R_keep (IsS59.apart (show IsS59 w _ g162 t160 x163001_1 from by repeat (first | (with_reducible first | exact HI162.out | apply IsS59.alloc | apply IsS59.drewN | apply IsS59.drew | apply IsS59.set_1) | exact HI162.out)) (rT_ HO_7) (by decide)) hk (fun _ h => h.2)) (fun _ h => h.1)); replace HO175 := Aside0.mk (Kd.R_mono (Kd.R_keep (IsS59.apart (show IsS59 w _ g162 t160 x163001_1 from by repeat (first | (with_reducible first | exact HI162.out | apply IsS59.alloc | apply IsS59.drewN | apply IsS59.drew | apply IsS59.set_1) | exact HI162.out)) (rT_ HO175) (by decide)) hk (fun _ h => h.2)) (fun _ h => h.1)); replace HB := Aside0.mk (hb); replace HI162 := Aside0.mk (hi); (try clear hb); (try clear hb2); (try clear hk); (try clear hi); obtain ⟨Ao20, co20, eo20⟩ := Kd.R_slice HO175.out; subst eo20; have q21 : ((ji14) : Int) ≤ ((y173.length : Int) : Int) := of_decide_eq_true (by first | (with_reducible assumption) | assumption); obtain ⟨i021, hi021, _, hsz21, _⟩ := info_parts info2; have hcut21 := cut_to (P := Try.prog) 24 2 .i64 Try.underlying24 hi021 Ao20 y173.length co20 (ji14) (of_decide_eq_true (by first | (with_reducible assumption) | assumption)) q21 (Kd.R_reads' HO175.out).2.1; have hr21 := Kd.R_take (m := ((ji14) : Int).toNat) HO175.out (by omega); have hy21 : y178.length = ((ji14) : Int).toNat := (by rw [Ny178.out, List.length_take]; omega); rw [← Ny178.out] at hr21; rw [← hy21] at hr21 hcut21; clear hy21 hi021 hsz21 HO175; have HO180 := Aside0.mk hr21; clear hr21; replace q21 := eq_true q21) | ((with_reducible refine gate_dst (N := 34) rfl ?_); refine Kd.R_lit (Kd.int .i64) _ 2 ?hg (N := 34) ?hd (xs := ([] : List Int)) (inner := []) (ok := fun _ => True) (okp := fun _ => True) ?hr ?hp (fun _ hk => hk) trivial (Below.refl _ _) (Nat.le_refl _) (by simp) ?_; (case hd => rfl); (case hg => rfl); (case hr => first | (go_simp; done) | (go_simp; rfl)); (case hp => exact (Reps.none _ _)); intro v182 w22 ho23 hb hg_ hnew_; clear hg_ hnew_; (first | rw [← Ny181.out] at ho23 | (simp only [Int.reduceToNat] at ho23; rw [← Ny181.out] at ho23)); have HO183 := Aside0.mk (Kd.R_lower (rN_ (rN_ ho23 HO_7) HO180) (below_size (by repeat (first | (with_reducible first | exact HB.out | apply below_alloc | apply pw_below_drewN | apply below_drew1 | refine below_set ?_ (IsS59.ge HI162.out)) | exact HB.out)))); replace HO_7 := rE_ HO_7 ho23 hb; replace HO180 := rE_ HO180 ho23 hb; replace HB := Aside0.mk (below_step (by repeat (first | (with_reducible first | exact HB.out | apply below_alloc | apply pw_below_drewN | apply below_drew1 | refine below_set ?_ (IsS59.ge HI162.out)) | exact HB.out)) hb); replace HI162 := Aside0.mk (IsS59.below (by repeat (first | (with_reducible first | exact HI162.out | apply IsS59.alloc | apply IsS59.drewN | apply IsS59.drew | apply IsS59.set_1) | exact HI162.out)) hb); clear hb ho23))
      go_loopg [11, 12] k1 (fun kq v11 v12 w' => ∃ (x11_2 : List Int) (x12_2 : Int) (x163001_2 : Int), v12 = .int .i64 x12_2 ∧ Aside0 (spec_DrawLevels.l1 kq x7_1 y178 x11_2 x12_2 t160 x163001_2 = some (r1, r2, r3, r4)) ∧ Aside0 (kq ≤ k1) ∧ Aside0 (Kd.R (Kd.int .i64) 2 w' w.heap.size (fun k_ => some k_ ≠ ((.slice Ao20 y178.length co20) : Value).ownBlock ∧ some k_ ≠ (v11 : Value).ownBlock) u7 x7_1) ∧ Aside0 (Kd.R (Kd.int .i64) 2 w' w.heap.size (fun k_ => some k_ ≠ (u7 : Value).ownBlock ∧ some k_ ≠ (v11 : Value).ownBlock) (.slice Ao20 y178.length co20) y178) ∧ Aside0 (Kd.R (Kd.int .i64) 2 w' w.heap.size (fun k_ => some k_ ≠ (u7 : Value).ownBlock ∧ some k_ ≠ ((.slice Ao20 y178.length co20) : Value).ownBlock) v11 x11_2) ∧ Aside0 (IsS59 w w' g162 t160 x163001_2) ∧ Aside0 (Below w.heap.size w w'))
      case atStart => exact ⟨(y181), (0), (t177), (by first | rfl | (simp; done) | (simp [*]; done)), H', ⟨Nat.le_refl _⟩, ⟨by (with_reducible repeat (first | apply Kd.R_alloc | apply Kd.R_drewN | apply Kd.R_drew)); exact Kd.R_mono HO_7.out (fun _ hk => ⟨ob_ hk.1.2, hk.2⟩)⟩, ⟨by (with_reducible repeat (first | apply Kd.R_alloc | apply Kd.R_drewN | apply Kd.R_drew)); exact Kd.R_mono HO180.out (fun _ hk => ⟨hk.1.2, hk.2⟩)⟩, ⟨by (with_reducible repeat (first | apply Kd.R_alloc | apply Kd.R_drewN | apply Kd.R_drew)); exact Kd.R_mono HO183.out (fun _ hk => ⟨hk.1.2, hk.2⟩)⟩, ⟨by repeat (first | (with_reducible first | exact HI162.out | apply IsS59.alloc | apply IsS59.drewN | apply IsS59.drew | apply IsS59.set_1) | exact HI162.out)⟩, ⟨by repeat (first | (with_reducible first | exact HB.out | apply below_alloc | apply pw_below_drewN | apply below_drew1 | refine below_set ?_ (IsS59.ge HI162.out)) | exact HB.out)⟩⟩
      case round =>
       clear H'; (try clear c1); (try clear c2); (try clear p2); (try clear q2); (try clear c3); (try clear p6); (try clear c8); (try clear c8b0); (try clear c10); (try clear c15); (try clear c15b0); (try clear c15b1); (try clear c16); (try clear c16b0); (try clear c16b1); (try clear q21); (try clear p2); (try clear q21)
       obtain ⟨x11_2, x12_2, x163001_2, rfl, HA, HK2, HO_7, HO_10, HO_11, HI162, HB⟩ := hrel
       cases gk with
       | zero => exact absurd HA.out (by simp [spec_DrawLevels.l1])
       | succ k2 =>
        have H := HA.out; clear HA
        simp only [spec_DrawLevels.l1] at H
        by_cases c24 : x12_2 < (y178.length : Int)
        ·rw [if_pos c24] at H
         have c24b0 : decide (x12_2 < (y178.length : Int)) = true := decide_eq_true c24
         clear c24
         by_cases c25 : 0 ≤ x12_2
         ·rw [if_pos c25] at H
          have c25b0 : decide (0 ≤ x12_2) = true := decide_eq_true c25
          clear c25; replace H := Option.bind_eq_some_iff.mp H
          obtain ⟨⟨t185, t186⟩, A260, H⟩ := H
          replace H : (if x11_2.length < 17592186044416 then (spec_DrawLevels.l1 k2 x7_1 y178 (x11_2 ++ [wrap64 ((rd y178 x12_2) - t185)]) (wrap64 (x12_2 + 1)) t160 t186) else (none)) = some (r1, r2, r3, r4) := H
          have A26 := Aside0.mk A260; clear A260
          by_cases c27 : x11_2.length < 17592186044416
          ·rw [if_pos c27] at H
           have LMc27 := Aside0.mk c27; clear c27
           obtain ⟨y187, hy187⟩ : ∃ y_ : List Int, y_ = (x11_2 ++ [wrap64 ((rd y178 x12_2) - t185)]) := ⟨_, rfl⟩
           replace H : (spec_DrawLevels.l1 k2 x7_1 y178 y187 (wrap64 (x12_2 + 1)) t160 t186) = some (r1, r2, r3, r4) := by first | (rw [hy187]; with_reducible exact H) | (have H2_ := (Option.bind_some _ _).symm.trans H; rw [hy187]; with_reducible exact H2_) | (have H2_ := (Option.bind_some _ _).symm.trans H; with_reducible exact H2_) | with_reducible exact H | (rw [hy187]; exact H) | exact H
           have Ny187 := Aside0.mk hy187; clear hy187; have H' := Aside0.mk H; clear H
           try go_wp2
           replace HO_7 := Aside0.mk (Kd.R_drew HO_7.out)
           replace HO_10 := Aside0.mk (Kd.R_drew HO_10.out)
           replace HO_11 := Aside0.mk (Kd.R_drew HO_11.out)
           replace HI162 := Aside0.mk (IsS59.drew HI162.out)
           replace HB := Aside0.mk (below_drew1 HB.out)
           have p184 : 0 ≤ (x12_2 : Int) := of_decide_eq_true (by first | (with_reducible assumption) | assumption)
           have q184 : x12_2 < (y178.length : Int) := of_decide_eq_true (by first | (with_reducible assumption) | assumption)
           obtain ⟨ad184, e184, hx184_0⟩ := Kd.at_int (Kd.R_reads' HO_10.out).2.2 x12_2 p184 q184
           cases e184
           replace p184 := eq_true p184; replace q184 := eq_true q184
           refine start_ (n := 11) (S := fun w' => w'.cell? (ad184.add (x12_2).toNat) = some (.int .i64 (rd y178 x12_2))) (ds := [8, 9]) #[false, false, false, false, false, false, false, false, false, false, false] (by kernel_rfl) rfl rfl (hx184_0) (fun hHeld => ?_); refine with_tabW spec_DrawLevels.tab13 spec_DrawLevels.bits13 (fun HT_ HW_ => ?_)
           generalize wr.drew = w28 at HO_7 HO_10 HO_11 HI162 HB hx184_0 hHeld ⊢
           refine pT_ 0 (some 41) #[true, false, false, false, false, false, false, false, false, false, false] HT_ ?_
           refine pT_ 1 (some 42) #[true, true, false, false, false, false, false, false, false, false, false] HT_ ?_
           refine pT_ 2 (some 43) #[true, true, true, false, false, false, false, false, false, false, false] HT_ ?_
           refine pT_ 3 (some 44) #[true, true, true, true, false, false, false, false, false, false, false] HT_ ?_
           refine pT_ 5 (some 46) #[true, true, true, true, false, true, false, false, false, false, false] HT_ ?_
           refine tT_ 4 (some 45) #[true, true, true, true, true, true, false, false, false, false, false] HT_ HW_ hHeld ?_
           refine one_ (i := 6) (N := some 47) #[true, true, true, true, true, true, true, false, false, false, false] rfl rfl (one_of HT_.out (by kernel_rfl)) (by decide) (fun K hK => ?_)
           refine goes_ Try.func37 (by kernel_rfl) rfl #[.pointer (some ⟨g162, 0, none⟩), .int .i64 14] (by rfl) rfl rfl (by (try simp only [List.map_toArray, List.map_cons, List.map_nil]); first | done | rfl | (simp only [List.length_drop, List.length_take]; rfl)) ?_
           with_reducible refine (spec_l1Rd_below.calls g162 t160 x163001_2 14 t185 t186 w _ ?side1 ?side2 A26.out).mono ?_
           (case side1 => repeat (first | (with_reducible first | exact HI162.out | apply IsS59.alloc | apply IsS59.drewN | apply IsS59.drew | apply IsS59.set_1) | exact HI162.out))
           (case side2 => repeat (first | (with_reducible first | exact HB.out | apply below_alloc | apply pw_below_drewN | apply below_drew1 | refine below_set ?_ (IsS59.ge HI162.out)) | exact HB.out))
           rintro e w29 ⟨rfl, hi, hb, hk⟩
           have HS0_ := keep_cell hk (hHeld) (by first | (rw [add_block]; exact Kd.own_blk (IsS59.own_ne HI162.out HO_10.out (by decide))) | (show (Addr.add _ _).block ≠ _; rw [add_block]; exact Kd.own_blk (IsS59.own_ne HI162.out HO_10.out (by decide))) | exact Kd.own_blk (IsS59.own_ne HI162.out HO_10.out (by decide)))
           refine ⟨_, rfl, ?_⟩
           replace HO_7 := Aside0.mk (Kd.R_mono (Kd.R_keep (IsS59.apart (show IsS59 w _ g162 t160 x163001_2 from by repeat (first | (with_reducible first | exact HI162.out | apply IsS59.alloc | apply IsS59.drewN | apply IsS59.drew | apply IsS59.set_1) | exact HI162.out)) (rT_ HO_7) (by decide)) hk (fun _ h => h.2)) (fun _ h => h.1))
           replace HO_10 := Aside0.mk (Kd.R_mono (Kd.R_keep (IsS59.apart (show IsS59 w _ g162 t160 x163001_2 from by repeat (first | (with_reducible first | exact HI162.out | apply IsS59.alloc | apply IsS59.drewN | apply IsS59.drew | apply IsS59.set_1) | exact HI162.out)) (rT_ HO_10) (by decide)) hk (fun _ h => h.2)) (fun _ h => h.1))
           replace HO_11 := Aside0.mk (Kd.R_mono (Kd.R_keep (IsS59.apart (show IsS59 w _ g162 t160 x163001_2 from by repeat (first | (with_reducible first | exact HI162.out | apply IsS59.alloc | apply IsS59.drewN | apply IsS59.drew | apply IsS59.set_1) | exact HI162.out)) (rT_ HO_11) (by decide)) hk (fun _ h => h.2)) (fun _ h => h.1))
           replace HB := Aside0.mk (hb)
           replace HI162 := Aside0.mk (hi)
           (try clear hb); (try clear hb2); (try clear hk); (try clear hi)
           refine hK.out _ _ (HS0_) (fun hHeld => ?_)
           clear hK K
           refine nS_ (some 47) ?_
           refine pT_ 7 (some 48) #[true, true, true, true, true, true, true, true, false, false, false] HT_ ?_
           refine last_ (i := 8) (N := some 49) #[true, true, true, true, true, true, true, true, true, false, false] rfl rfl (one_of HT_.out (by kernel_rfl)) (by decide) (fun K hK => ?_)
           refine value_ (w1 := ?_) (v := ?_) (by rfl) rfl ?_ ?_
           rotate_left 2
           ·go_simp
            constructor
            ·rfl
            ·rfl
           refine hK.out _ _ ?_
           clear hK K
           refine nS_ (some 49) ?_
           refine last_ (i := 9) (N := some 50) #[true, true, true, true, true, true, true, true, true, true, false] rfl rfl (one_of HT_.out (by kernel_rfl)) (by decide) (fun K hK => ?_)
           refine Kd.R_append_step (Kd.int .i64) (w0 := w) w.heap.size (by rfl) (.tmp 41) (.tmp 49) 24 2 (.int .i64 0) 8 rfl Try.underlying24 info2 rfl (by decide) (by omega) u11 x11_2 (wrap64 ((rd y178 x12_2) - t185)) [.int .i64 (wrap64 ((rd y178 x12_2) - t185))] (fun k_ => some k_ ≠ (u7 : Value).ownBlock ∧ some k_ ≠ (.slice (some ad184) y178.length co20 : Value).ownBlock) (fun _ => False) rfl rfl ?aP (fun _ hk => hk.elim) ?aF ?aO ?aB ?aS ?aL ?_
           (case aP => exact rfl)
           (case aB => exact (by repeat (first | (with_reducible first | exact HB.out | apply below_alloc | apply pw_below_drewN | apply below_drew1 | refine below_set ?_ (IsS59.ge HI162.out)) | exact HB.out)))
           (case aF => exact (fun k_ hk => ⟨Kd.fresh' (rLt_ HO_7) k_ hk, Kd.fresh' (rLt_ HO_10) k_ hk⟩))
           (case aO => exact (rT_ HO_11))
           (case aS => exact (below_size (by repeat (first | (with_reducible first | exact HB.out | apply below_alloc | apply pw_below_drewN | apply below_drew1 | refine below_set ?_ (IsS59.ge HI162.out)) | exact HB.out))))
           (case aL => have := LMc27.out; omega)
           intro v188 w30 ho hb hg hat
           rw [← Ny187.out] at ho
           replace HO_7 := Aside0.mk (Kd.R_after (ok := (fun k_ => some k_ ≠ (.slice (some ad184) y178.length co20 : Value).ownBlock)) (rT_ HO_7) hg hat)
           replace HO_10 := Aside0.mk (Kd.R_after (ok := (fun k_ => some k_ ≠ (u7 : Value).ownBlock)) (rT_ HO_10) hg hat)
           replace HI162 := Aside0.mk (IsS59.grown (by repeat (first | (with_reducible first | exact HI162.out | apply IsS59.alloc | apply IsS59.drewN | apply IsS59.drew | apply IsS59.set_1) | exact HI162.out)) hg (IsS59.own_ne HI162.out HO_11.out (by decide)))
           replace HB := Aside0.mk (hb)
           have HO189 := Aside0.mk (ho)
           clear HO_11 ho hb hg hat
           refine hK.out _ _ ?_
           clear hK K
           refine nS_ (some 50) ?_
           refine pT_ 10 (some 11) #[true, true, true, true, true, true, true, true, true, true, true] HT_ ?_
           refine done_ (done_of HT_.out (by kernel_rfl)) ?_
           try go_wp2
           go_roundg k2
           case measure => have := HK1.out; have := HK2.out; omega
           case rel => exact ⟨(y187), (wrap64 (x12_2 + 1)), (t186), (by first | rfl | (simp; done) | (simp [*]; done)), H', ⟨by have := HK1.out; have := HK2.out; omega⟩, ⟨by (with_reducible repeat (first | apply Kd.R_alloc | apply Kd.R_drewN | apply Kd.R_drew)); exact HO_7.out⟩, ⟨by (with_reducible repeat (first | apply Kd.R_alloc | apply Kd.R_drewN | apply Kd.R_drew)); exact HO_10.out⟩, ⟨by (with_reducible repeat (first | apply Kd.R_alloc | apply Kd.R_drewN | apply Kd.R_drew)); exact HO189.out⟩, ⟨by repeat (first | (with_reducible first | exact HI162.out | apply IsS59.alloc | apply IsS59.drewN | apply IsS59.drew | apply IsS59.set_1) | exact HI162.out)⟩, ⟨by repeat (first | (with_reducible first | exact HB.out | apply below_alloc | apply pw_below_drewN | apply below_drew1 | refine below_set ?_ (IsS59.ge HI162.out)) | exact HB.out)⟩⟩
          ·rw [if_neg c27] at H
           exact absurd H (by simp)
         ·rw [if_neg c25] at H
          exact absurd H (by simp)
        ·rw [if_neg c24] at H
         have c24b0 : decide (x12_2 < (y178.length : Int)) = false := decide_eq_false c24
         clear c24; replace H := Option.bind_eq_some_iff.mp H
         obtain ⟨⟨t190, t191⟩, A310, H⟩ := H
         replace H : ((spec_l1Rd_below.f t160 t191 24).bind fun bt192 => (if bt192.1 = 0 then (if 0 < (y178.length : Int) then (if 0 < (x11_2.length : Int) then (some (x7_1, y178, (x11_2.set (0 : Int).toNat (wrap64 ((rd y178 0) + 1))), wrap64 (1 + t190))) else (none)) else (none)) else (if bt192.1 = 1 then (if 0 ≤ (wrap64 ((y178.length : Int) - 1)) then (if (wrap64 ((y178.length : Int) - 1)) < (y178.length : Int) then (if y178.length < 17592186044416 then (if x11_2.length < 17592186044416 then (some (x7_1, (y178 ++ [rd y178 (wrap64 ((y178.length : Int) - 1))]), (x11_2 ++ [0]), wrap64 (1 + t190))) else (none)) else (none)) else (none)) else (none)) else (if bt192.1 = 2 then ((some (([0, 100, 101] : List Int) : List Int)).bind fun y203 => ((spec_l1Rd_below.f t160 bt192.2 3).bind fun bt206 => (if 0 ≤ bt206.1 then (if bt206.1 < (y203.length : Int) then (some (x7_1, y178, x11_2, rd y203 bt206.1)) else (none)) else (none)))) else (if bt192.1 = 3 then ((spec_l19Draw.f k2 t160 bt192.2).bind fun bt209 => (some (bt209.1, y178, x11_2, wrap64 (1 + t190)))) else (if bt192.1 = 4 then (if 0 ≤ (y178.length : Int) then (if 0 ≤ (x11_2.length : Int) then (some (x7_1, (y178.take (0 : Int).toNat), (x11_2.take (0 : Int).toNat), wrap64 (1 + t190))) else (none)) else (none)) else (some (x7_1, y178, x11_2, wrap64 (1 + t190))))))))) = some (r1, r2, r3, r4) := H
         have A31 := Aside0.mk A310; clear A310; replace H := Option.bind_eq_some_iff.mp H
         obtain ⟨⟨t192, t193⟩, A320, H⟩ := H
         replace H : (if t192 = 0 then (if 0 < (y178.length : Int) then (if 0 < (x11_2.length : Int) then (some (x7_1, y178, (x11_2.set (0 : Int).toNat (wrap64 ((rd y178 0) + 1))), wrap64 (1 + t190))) else (none)) else (none)) else (if t192 = 1 then (if 0 ≤ (wrap64 ((y178.length : Int) - 1)) then (if (wrap64 ((y178.length : Int) - 1)) < (y178.length : Int) then (if y178.length < 17592186044416 then (if x11_2.length < 17592186044416 then (some (x7_1, (y178 ++ [rd y178 (wrap64 ((y178.length : Int) - 1))]), (x11_2 ++ [0]), wrap64 (1 + t190))) else (none)) else (none)) else (none)) else (none)) else (if t192 = 2 then ((some (([0, 100, 101] : List Int) : List Int)).bind fun y203 => ((spec_l1Rd_below.f t160 t193 3).bind fun bt206 => (if 0 ≤ bt206.1 then (if bt206.1 < (y203.length : Int) then (some (x7_1, y178, x11_2, rd y203 bt206.1)) else (none)) else (none)))) else (if t192 = 3 then ((spec_l19Draw.f k2 t160 t193).bind fun bt209 => (some (bt209.1, y178, x11_2, wrap64 (1 + t190)))) else (if t192 = 4 then (if 0 ≤ (y178.length : Int) then (if 0 ≤ (x11_2.length : Int) then (some (x7_1, (y178.take (0 : Int).toNat), (x11_2.take (0 : Int).toNat), wrap64 (1 + t190))) else (none)) else (none)) else (some (x7_1, y178, x11_2, wrap64 (1 + t190)))))))) = some (r1, r2, r3, r4) := H
         have A32 := Aside0.mk A320; clear A320
         by_cases c33 : t192 = 0
         ·rw [if_pos c33] at H
          have c33b0 : (t192 == 0) = true := beq_iff_eq.mpr c33
          have c33b1 : (t192 != 0) = false := bne_eq_false_iff_eq.mpr c33
          clear c33
          by_cases c34 : 0 < (y178.length : Int)
          ·rw [if_pos c34] at H
           have c34b0 : decide (0 < (y178.length : Int)) = true := decide_eq_true c34
           have c34b1 : decide (0 < y178.length) = true := decide_eq_true (by omega)
           clear c34
           by_cases c35 : 0 < (x11_2.length : Int)
           ·rw [if_pos c35] at H
            have c35b0 : decide (0 < (x11_2.length : Int)) = true := decide_eq_true c35
            have c35b1 : decide (0 < x11_2.length) = true := decide_eq_true (by omega)
            clear c35
            obtain ⟨y195, hy195⟩ : ∃ y_ : List Int, y_ = (x11_2.set (0 : Int).toNat (wrap64 ((rd y178 0) + 1))) := ⟨_, rfl⟩
            replace H : (some (x7_1, y178, y195, wrap64 (1 + t190))) = some (r1, r2, r3, r4) := by first | (rw [hy195]; with_reducible exact H) | (have H2_ := (Option.bind_some _ _).symm.trans H; rw [hy195]; with_reducible exact H2_) | (have H2_ := (Option.bind_some _ _).symm.trans H; with_reducible exact H2_) | with_reducible exact H | (rw [hy195]; exact H) | exact H
            have Ny195 := Aside0.mk hy195; clear hy195
            simp only [Option.some.injEq, Prod.mk.injEq] at H
            obtain ⟨rfl, rfl, rfl, rfl⟩ := H
            go_wp2_with (first | ((with_reducible refine gate_callee (f := 37) rfl ?_); refine gL_ (some 52) Try.func37 #[.pointer (some ⟨g162, 0, none⟩), .int .i64 4] ?_; (with_reducible refine (spec_l1Rd_below.calls g162 t160 x163001_2 4 t190 t191 w _ ?side1 ?side2 A31.out).mono ?_); (case side1 => repeat (first | (with_reducible first | exact HI162.out | apply IsS59.alloc | apply IsS59.drewN | apply IsS59.drew | apply IsS59.set_1) | exact HI162.out)); (case side2 => repeat (first | (with_reducible first | exact HB.out | apply below_alloc | apply pw_below_drewN | apply below_drew1 | refine below_set ?_ (IsS59.ge HI162.out)) | exact HB.out)); rintro e w37 ⟨rfl, hi, hb, hk⟩; refine ⟨_, rfl, ?_⟩; replace HO_7 := Aside0.mk (Kd.R_mono (Kd.R_keep (IsS59.apart (show IsS59 w _ g162 t160 x163001_2 from by repeat (first | (with_reducible first | exact HI162.out | apply IsS59.alloc | apply IsS59.drewN | apply IsS59.drew | apply IsS59.set_1) | exact HI162.out)) (rT_ HO_7) (by decide)) hk (fun _ h => h.2)) (fun _ h => h.1)); replace HO_10 := Aside0.mk (Kd.R_mono (Kd.R_keep (IsS59.apart (show IsS59 w _ g162 t160 x163001_2 from by repeat (first | (with_reducible first | exact HI162.out | apply IsS59.alloc | apply IsS59.drewN | apply IsS59.drew | apply IsS59.set_1) | exact HI162.out)) (rT_ HO_10) (by decide)) hk (fun _ h => h.2)) (fun _ h => h.1)); replace HO_11 := Aside0.mk (Kd.R_mono (Kd.R_keep (IsS59.apart (show IsS59 w _ g162 t160 x163001_2 from by repeat (first | (with_reducible first | exact HI162.out | apply IsS59.alloc | apply IsS59.drewN | apply IsS59.drew | apply IsS59.set_1) | exact HI162.out)) (rT_ HO_11) (by decide)) hk (fun _ h => h.2)) (fun _ h => h.1)); replace HB := Aside0.mk (hb); replace HI162 := Aside0.mk (hi); (try clear hb); (try clear hb2); (try clear hk); (try clear hi)) | ((with_reducible refine gate_callee (f := 37) rfl ?_); refine gL_ (some 55) Try.func37 #[.pointer (some ⟨g162, 0, none⟩), .int .i64 24] ?_; (with_reducible refine (spec_l1Rd_below.calls g162 t160 t191 24 t192 t193 w _ ?side1 ?side2 A32.out).mono ?_); (case side1 => repeat (first | (with_reducible first | exact HI162.out | apply IsS59.alloc | apply IsS59.drewN | apply IsS59.drew | apply IsS59.set_1) | exact HI162.out)); (case side2 => repeat (first | (with_reducible first | exact HB.out | apply below_alloc | apply pw_below_drewN | apply below_drew1 | refine below_set ?_ (IsS59.ge HI162.out)) | exact HB.out)); rintro e w38 ⟨rfl, hi, hb, hk⟩; refine ⟨_, rfl, ?_⟩; replace HO_7 := Aside0.mk (Kd.R_mono (Kd.R_keep (IsS59.apart (show IsS59 w _ g162 t160 t191 from by repeat (first | (with_reducible first | exact HI162.out | apply IsS59.alloc | apply IsS59.drewN | apply IsS59.drew | apply IsS59.set_1) | exact HI162.out)) (rT_ HO_7) (by decide)) hk (fun _ h => h.2)) (fun _ h => h.1)); replace HO_10 := Aside0.mk (Kd.R_mono (Kd.R_keep (IsS59.apart (show IsS59 w _ g162 t160 t191 from by repeat (first | (with_reducible first | exact HI162.out | apply IsS59.alloc | apply IsS59.drewN | apply IsS59.drew | apply IsS59.set_1) | exact HI162.out)) (rT_ HO_10) (by decide)) hk (fun _ h => h.2)) (fun _ h => h.1)); replace HO_11 := Aside0.mk (Kd.R_mono (Kd.R_keep (IsS59.apart (show IsS59 w _ g162 t160 t191 from by repeat (first | (with_reducible first | exact HI162.out | apply IsS59.alloc | apply IsS59.drewN | apply IsS59.drew | apply IsS59.set_1) | exact HI162.out)) (rT_ HO_11) (by decide)) hk (fun _ h => h.2)) (fun _ h => h.1)); replace HB := Aside0.mk (hb); replace HI162 := Aside0.mk (hi); (try clear hb); (try clear hb2); (try clear hk); (try clear hi); have p194 : 0 ≤ (0 : Int) := (by omega); have q194 : 0 < (y178.length : Int) := of_decide_eq_true (by first | (with_reducible assumption) | assumption); obtain ⟨ad194, e194, hx194_0⟩ := Kd.at_int (Kd.R_reads' HO_10.out).2.2 0 p194 q194; cases e194; have qi194 : (0 < y178.length) = True := eq_true (by omega); (try rw [show ((0 : Int)).toNat = 0 from rfl] at hx194_0); (try rw [Addr.add_zero'] at hx194_0); replace p194 := eq_true p194; replace q194 := eq_true q194; have p36 : 0 ≤ (0 : Int) := (by omega); have q36 : (0 : Int) < ((x11_2.length : Int) : Int) := of_decide_eq_true (by first | (with_reducible assumption) | assumption); have qi36 : (0 < x11_2.length) = True := eq_true (by omega); obtain ⟨go36, co36, eo36, gb36, gl36, cl36, HG36⟩ := Kd.R_form HO_11.out (by omega); (first | cases eo36 | (injection eo36 with ea_ en_ ec_; (first | subst ea_ | (injection ea_ with ea_; subst ea_)); subst ec_; clear en_)); have GB36 := Aside0.mk gb36; have GG36 := Aside0.mk HG36; clear gb36 gl36 HG36; obtain ⟨hx36_0, hf36_0⟩ := Kd.R_celln 0 HO_11.out (0 : Int) p36 q36; (try rw [show ((0 : Int)).toNat = 0 from rfl] at hx36_0); (try simp only [Nat.reduceMul, Nat.zero_mul, Nat.zero_add, Nat.reduceAdd] at hx36_0); (try rw [show ((0 : Int)).toNat = 0 from rfl] at hf36_0); (try simp only [Nat.reduceMul, Nat.zero_mul, Nat.zero_add, Nat.reduceAdd] at hf36_0); replace p36 := eq_true p36; replace q36 := eq_true q36; obtain ⟨hy39_, hz39_⟩ := Kd.R_celln 0 HO_11.out (0 : Int) (by omega) (of_decide_eq_true (by first | (with_reducible assumption) | assumption)); (try simp only [Int.reduceToNat, Int.toNat_zero, Int.toNat_ofNat, Nat.reduceMul, Nat.zero_mul, Nat.zero_add] at hy39_ hz39_); (try rw [show ((0 : Int)).toNat = 0 from rfl] at hy39_); (try rw [show ((0 : Int)).toNat = 0 from rfl] at hz39_); have HP39 := Kd.R_putg HO_11.out (0 : Int) (wrap64 ((rd y178 0) + 1))) | ((with_reducible refine gate_store (t := 2) (p := 63) rfl ?_); refine store_event (t := 2) (p := 63) (v := ?vo_w40) (w1 := (w38.setCell ⟨go36, (0 : Int).toNat, none⟩ (.int .i64 (wrap64 ((rd y178 0) + 1))))) ?hg ?ho ?hn ?hr ?_; (case ho => rfl); (case hg => rfl); (case hn => rfl); (case hr => first | (go_simp; done) | (go_simp; rfl)); intro w40 hw; have hg : w38.grownBy w40 (some go36) := (by rw [hw]; exact HP39.2); have hp_ : Kd.R (Kd.int .i64) 2 w40 w.heap.size (fun k_ => some k_ ≠ (u7 : Value).ownBlock ∧ some k_ ≠ (.slice (some ad194) y178.length co20 : Value).ownBlock) (.slice (some ⟨go36, 0, none⟩) x11_2.length co36) y195 := (by rw [hw, Ny195.out]; exact HP39.1); clear HP39; replace HO_7 := Aside0.mk (Kd.R_after (v := (.slice (some ⟨go36, 0, none⟩) x11_2.length co36)) (v1 := (.slice (some ⟨go36, 0, none⟩) x11_2.length co36)) (ok := (fun k_ => some k_ ≠ (.slice (some ad194) y178.length co20 : Value).ownBlock)) (rT_ HO_7) hg (.inl rfl)); replace HO_10 := Aside0.mk (Kd.R_after (v := (.slice (some ⟨go36, 0, none⟩) x11_2.length co36)) (v1 := (.slice (some ⟨go36, 0, none⟩) x11_2.length co36)) (ok := (fun k_ => some k_ ≠ (u7 : Value).ownBlock)) (rT_ HO_10) hg (.inl rfl)); replace HI162 := Aside0.mk (IsS59.grown (by repeat (first | (with_reducible first | exact HI162.out | apply IsS59.alloc | apply IsS59.drewN | apply IsS59.drew | apply IsS59.set_1) | exact HI162.out)) hg (IsS59.own_ne HI162.out HO_11.out (by decide))); replace HO_11 := Aside0.mk (hp_); replace HB := Aside0.mk ((by rw [hw]; exact below_set (HB.out) GB36.out : Below w.heap.size w w40)); clear hg hw hp_))
            refine bodyPost_ret (results_list (rs := [.tmp 2, .tmp 3, .tmp 4, .tmp 5]) rfl (by simp) (.tmp (.tmp (.tmp (.tmp .nil))))) rfl ?_
            exact ⟨_, _, _, by first | rfl | (simp [errW_none, errW_some] <;> rfl) | (simp only [← hji14]; first | rfl | (simp [errW_none, errW_some] <;> rfl)) | (simp [*, errW_none, errW_some] <;> rfl), by (with_reducible repeat (first | apply Kd.R_alloc | apply Kd.R_drewN | apply Kd.R_drew)); exact HO_7.out, by (with_reducible repeat (first | apply Kd.R_alloc | apply Kd.R_drewN | apply Kd.R_drew)); exact HO_10.out, by (with_reducible repeat (first | apply Kd.R_alloc | apply Kd.R_drewN | apply Kd.R_drew)); exact HO_11.out, by repeat (first | (with_reducible first | exact HB.out | apply below_alloc | apply pw_below_drewN | apply below_drew1 | refine below_set ?_ (IsS59.ge HI162.out)) | exact HB.out)⟩
           ·rw [if_neg c35] at H
            exact absurd H (by simp)
          ·rw [if_neg c34] at H
           exact absurd H (by simp)
         ·rw [if_neg c33] at H
          have c33b0 : (t192 == 0) = false := beq_eq_false_iff_ne.mpr c33
          have c33b1 : (t192 != 0) = true := bne_iff_ne.mpr c33
          by_cases c41 : t192 = 1
          ·rw [if_pos c41] at H
           have c41b0 : (t192 == 1) = true := beq_iff_eq.mpr c41
           have c41b1 : (t192 != 1) = false := bne_eq_false_iff_eq.mpr c41
           clear c41
           obtain ⟨ji42, hji42⟩ : ∃ j_ : Int, (wrap64 ((y178.length : Int) - 1)) = j_ := ⟨_, rfl⟩
           replace H : (if 0 ≤ (ji42) then (if (ji42) < (y178.length : Int) then (if y178.length < 17592186044416 then (if x11_2.length < 17592186044416 then (some (x7_1, (y178 ++ [rd y178 (ji42)]), (x11_2 ++ [0]), wrap64 (1 + t190))) else (none)) else (none)) else (none)) else (none)) = some (r1, r2, r3, r4) := by first | (rw [hji42] at H; exact H) | (simp only [hji42] at H ⊢; exact H)
           (try rw [hji42] at A31)
           (try rw [hji42] at A32)
           have hji42w : (IntKind.i64.wrap ((y178.length : Int) - 1)) = ji42 := (i64_w _).trans hji42
           by_cases c43 : 0 ≤ (ji42)
           ·rw [if_pos c43] at H
            have c43b0 : decide (0 ≤ (ji42)) = true := decide_eq_true c43
            clear c43
            by_cases c44 : (ji42) < (y178.length : Int)
            ·rw [if_pos c44] at H
             have c44b0 : decide ((ji42) < (y178.length : Int)) = true := decide_eq_true c44
             clear c44
             by_cases c45 : y178.length < 17592186044416
             ·rw [if_pos c45] at H
              have LMc45 := Aside0.mk c45; clear c45
              obtain ⟨y197, hy197⟩ : ∃ y_ : List Int, y_ = (y178 ++ [rd y178 (ji42)]) := ⟨_, rfl⟩
              replace H : (if x11_2.length < 17592186044416 then (some (x7_1, y197, (x11_2 ++ [0]), wrap64 (1 + t190))) else (none)) = some (r1, r2, r3, r4) := by first | (rw [hy197]; with_reducible exact H) | (have H2_ := (Option.bind_some _ _).symm.trans H; rw [hy197]; with_reducible exact H2_) | (have H2_ := (Option.bind_some _ _).symm.trans H; with_reducible exact H2_) | with_reducible exact H | (rw [hy197]; exact H) | exact H
              have Ny197 := Aside0.mk hy197; clear hy197
              by_cases c46 : x11_2.length < 17592186044416
              ·rw [if_pos c46] at H
               have LMc46 := Aside0.mk c46; clear c46
               obtain ⟨y200, hy200⟩ : ∃ y_ : List Int, y_ = (x11_2 ++ [0]) := ⟨_, rfl⟩
               replace H : (some (x7_1, y197, y200, wrap64 (1 + t190))) = some (r1, r2, r3, r4) := by first | (rw [hy200]; with_reducible exact H) | (have H2_ := (Option.bind_some _ _).symm.trans H; rw [hy200]; with_reducible exact H2_) | (have H2_ := (Option.bind_some _ _).symm.trans H; with_reducible exact H2_) | with_reducible exact H | (rw [hy200]; exact H) | exact H
               have Ny200 := Aside0.mk hy200; clear hy200
               simp only [Option.some.injEq, Prod.mk.injEq] at H
               obtain ⟨rfl, rfl, rfl, rfl⟩ := H
               go_wp2_with (first | ((with_reducible refine gate_callee (f := 37) rfl ?_); refine gL_ (some 52) Try.func37 #[.pointer (some ⟨g162, 0, none⟩), .int .i64 4] ?_; (with_reducible refine (spec_l1Rd_below.calls g162 t160 x163001_2 4 t190 t191 w _ ?side1 ?side2 A31.out).mono ?_); (case side1 => repeat (first | (with_reducible first | exact HI162.out | apply IsS59.alloc | apply IsS59.drewN | apply IsS59.drew | apply IsS59.set_1) | exact HI162.out)); (case side2 => repeat (first | (with_reducible first | exact HB.out | apply below_alloc | apply pw_below_drewN | apply below_drew1 | refine below_set ?_ (IsS59.ge HI162.out)) | exact HB.out)); rintro e w47 ⟨rfl, hi, hb, hk⟩; refine ⟨_, rfl, ?_⟩; replace HO_7 := Aside0.mk (Kd.R_mono (Kd.R_keep (IsS59.apart (show IsS59 w _ g162 t160 x163001_2 from by repeat (first | (with_reducible first | exact HI162.out | apply IsS59.alloc | apply IsS59.drewN | apply IsS59.drew | apply IsS59.set_1) | exact HI162.out)) (rT_ HO_7) (by decide)) hk (fun _ h => h.2)) (fun _ h => h.1)); replace HO_10 := Aside0.mk (Kd.R_mono (Kd.R_keep (IsS59.apart (show IsS59 w _ g162 t160 x163001_2 from by repeat (first | (with_reducible first | exact HI162.out | apply IsS59.alloc | apply IsS59.drewN | apply IsS59.drew | apply IsS59.set_1) | exact HI162.out)) (rT_ HO_10) (by decide)) hk (fun _ h => h.2)) (fun _ h => h.1)); replace HO_11 := Aside0.mk (Kd.R_mono (Kd.R_keep (IsS59.apart (show IsS59 w _ g162 t160 x163001_2 from by repeat (first | (with_reducible first | exact HI162.out | apply IsS59.alloc | apply IsS59.drewN | apply IsS59.drew | apply IsS59.set_1) | exact HI162.out)) (rT_ HO_11) (by decide)) hk (fun _ h => h.2)) (fun _ h => h.1)); replace HB := Aside0.mk (hb); replace HI162 := Aside0.mk (hi); (try clear hb); (try clear hb2); (try clear hk); (try clear hi)) | ((with_reducible refine gate_callee (f := 37) rfl ?_); refine gL_ (some 55) Try.func37 #[.pointer (some ⟨g162, 0, none⟩), .int .i64 24] ?_; (with_reducible refine (spec_l1Rd_below.calls g162 t160 t191 24 t192 t193 w _ ?side1 ?side2 A32.out).mono ?_); (case side1 => repeat (first | (with_reducible first | exact HI162.out | apply IsS59.alloc | apply IsS59.drewN | apply IsS59.drew | apply IsS59.set_1) | exact HI162.out)); (case side2 => repeat (first | (with_reducible first | exact HB.out | apply below_alloc | apply pw_below_drewN | apply below_drew1 | refine below_set ?_ (IsS59.ge HI162.out)) | exact HB.out)); rintro e w48 ⟨rfl, hi, hb, hk⟩; refine ⟨_, rfl, ?_⟩; replace HO_7 := Aside0.mk (Kd.R_mono (Kd.R_keep (IsS59.apart (show IsS59 w _ g162 t160 t191 from by repeat (first | (with_reducible first | exact HI162.out | apply IsS59.alloc | apply IsS59.drewN | apply IsS59.drew | apply IsS59.set_1) | exact HI162.out)) (rT_ HO_7) (by decide)) hk (fun _ h => h.2)) (fun _ h => h.1)); replace HO_10 := Aside0.mk (Kd.R_mono (Kd.R_keep (IsS59.apart (show IsS59 w _ g162 t160 t191 from by repeat (first | (with_reducible first | exact HI162.out | apply IsS59.alloc | apply IsS59.drewN | apply IsS59.drew | apply IsS59.set_1) | exact HI162.out)) (rT_ HO_10) (by decide)) hk (fun _ h => h.2)) (fun _ h => h.1)); replace HO_11 := Aside0.mk (Kd.R_mono (Kd.R_keep (IsS59.apart (show IsS59 w _ g162 t160 t191 from by repeat (first | (with_reducible first | exact HI162.out | apply IsS59.alloc | apply IsS59.drewN | apply IsS59.drew | apply IsS59.set_1) | exact HI162.out)) (rT_ HO_11) (by decide)) hk (fun _ h => h.2)) (fun _ h => h.1)); replace HB := Aside0.mk (hb); replace HI162 := Aside0.mk (hi); (try clear hb); (try clear hb2); (try clear hk); (try clear hi); have p196 : 0 ≤ ((ji42) : Int) := of_decide_eq_true (by first | (with_reducible assumption) | assumption); have q196 : (ji42) < (y178.length : Int) := of_decide_eq_true (by first | (with_reducible assumption) | assumption); obtain ⟨ad196, e196, hx196_0⟩ := Kd.at_int (Kd.R_reads' HO_10.out).2.2 (ji42) p196 q196; cases e196; replace p196 := eq_true p196; replace q196 := eq_true q196) | ((with_reducible refine gate_builtin (b := .append) (xs := #[.tmp 66, .tmp 73]) rfl ?_); at_builtin; refine Kd.R_append (Kd.int .i64) (w0 := w) w.heap.size rfl (.tmp 66) (.tmp 73) 24 2 (.int .i64 0) 8 rfl Try.underlying24 info2 rfl (by decide) (by omega) (.slice (some ad196) y178.length co20) y178 (rd y178 (ji42)) [.int .i64 (rd y178 (ji42))] (fun k_ => some k_ ≠ (u7 : Value).ownBlock ∧ some k_ ≠ (u11 : Value).ownBlock) (fun _ => False) rfl rfl ?aP (fun _ hk => hk.elim) ?aF ?aO ?aB ?aS ?aL ?_; (case aP => exact rfl); (case aB => exact (by repeat (first | (with_reducible first | exact HB.out | apply below_alloc | apply pw_below_drewN | apply below_drew1 | refine below_set ?_ (IsS59.ge HI162.out)) | exact HB.out))); (case aF => exact (fun k_ hk => ⟨Kd.fresh' (rLt_ HO_7) k_ hk, Kd.fresh' (rLt_ HO_11) k_ hk⟩)); (case aO => exact (rT_ HO_10)); (case aS => exact (below_size (by repeat (first | (with_reducible first | exact HB.out | apply below_alloc | apply pw_below_drewN | apply below_drew1 | refine below_set ?_ (IsS59.ge HI162.out)) | exact HB.out)))); (case aL => have := LMc45.out; omega); intro v198 w49 ho hb hg hat; rw [← Ny197.out] at ho; replace HO_7 := Aside0.mk (Kd.R_after (ok := (fun k_ => some k_ ≠ (u11 : Value).ownBlock)) (rM_ HO_7) hg hat); replace HO_11 := Aside0.mk (Kd.R_after (ok := (fun k_ => some k_ ≠ (u7 : Value).ownBlock)) (rT_ HO_11) hg hat); replace HI162 := Aside0.mk (IsS59.grown (by repeat (first | (with_reducible first | exact HI162.out | apply IsS59.alloc | apply IsS59.drewN | apply IsS59.drew | apply IsS59.set_1) | exact HI162.out)) hg (IsS59.own_ne HI162.out HO_10.out (by decide))); replace HB := Aside0.mk (hb); have HO199 := Aside0.mk (ho); clear HO_10; clear ho hb hg hat) | ((with_reducible refine gate_builtin (b := .append) (xs := #[.tmp 75, .tmp 76]) rfl ?_); at_builtin; refine Kd.R_append (Kd.int .i64) (w0 := w) w.heap.size rfl (.tmp 75) (.tmp 76) 24 2 (.int .i64 0) 8 rfl Try.underlying24 info2 rfl (by decide) (by omega) u11 x11_2 0 [.int .i64 0] (fun k_ => some k_ ≠ (u7 : Value).ownBlock ∧ some k_ ≠ (v198 : Value).ownBlock) (fun _ => False) rfl rfl ?aP (fun _ hk => hk.elim) ?aF ?aO ?aB ?aS ?aL ?_; (case aP => exact rfl); (case aB => exact (by repeat (first | (with_reducible first | exact HB.out | apply below_alloc | apply pw_below_drewN | apply below_drew1 | refine below_set ?_ (IsS59.ge HI162.out)) | exact HB.out))); (case aF => exact (fun k_ hk => ⟨Kd.fresh' (rLt_ HO_7) k_ hk, Kd.fresh' (rLt_ HO199) k_ hk⟩)); (case aO => exact (rT_ HO_11)); (case aS => exact (below_size (by repeat (first | (with_reducible first | exact HB.out | apply below_alloc | apply pw_below_drewN | apply below_drew1 | refine below_set ?_ (IsS59.ge HI162.out)) | exact HB.out)))); (case aL => have := LMc46.out; omega); intro v201 w50 ho hb hg hat; rw [← Ny200.out] at ho; replace HO_7 := Aside0.mk (Kd.R_after (ok := (fun k_ => some k_ ≠ (v198 : Value).ownBlock)) (rM_ HO_7) hg hat); replace HI162 := Aside0.mk (IsS59.grown (by repeat (first | (with_reducible first | exact HI162.out | apply IsS59.alloc | apply IsS59.drewN | apply IsS59.drew | apply IsS59.set_1) | exact HI162.out)) hg (IsS59.own_ne HI162.out HO_11.out (by decide))); replace HO199 := Aside0.mk (Kd.R_after (ok := (fun k_ => some k_ ≠ (u7 : Value).ownBlock)) (rT_ HO199) hg hat); replace HB := Aside0.mk (hb); have HO202 := Aside0.mk (ho); clear HO_11; clear ho hb hg hat))
               refine bodyPost_ret (results_list (rs := [.tmp 2, .tmp 3, .tmp 4, .tmp 5]) rfl (by simp) (.tmp (.tmp (.tmp (.tmp .nil))))) rfl ?_
               exact ⟨_, _, _, by first | rfl | (simp [errW_none, errW_some] <;> rfl) | (simp only [← hji14, ← hji42]; first | rfl | (simp [errW_none, errW_some] <;> rfl)) | (simp [*, errW_none, errW_some] <;> rfl), by (with_reducible repeat (first | apply Kd.R_alloc | apply Kd.R_drewN | apply Kd.R_drew)); exact HO_7.out, by (with_reducible repeat (first | apply Kd.R_alloc | apply Kd.R_drewN | apply Kd.R_drew)); exact HO199.out, by (with_reducible repeat (first | apply Kd.R_alloc | apply Kd.R_drewN | apply Kd.R_drew)); exact HO202.out, by repeat (first | (with_reducible first | exact HB.out | apply below_alloc | apply pw_below_drewN | apply below_drew1 | refine below_set ?_ (IsS59.ge HI162.out)) | exact HB.out)⟩
              ·rw [if_neg c46] at H
               exact absurd H (by simp)
             ·rw [if_neg c45] at H
              exact absurd H (by simp)
            ·rw [if_neg c44] at H
             exact absurd H (by simp)
           ·rw [if_neg c43] at H
            exact absurd H (by simp)
          ·rw [if_neg c41] at H
           have c41b0 : (t192 == 1) = false := beq_eq_false_iff_ne.mpr c41
           have c41b1 : (t192 != 1) = true := bne_iff_ne.mpr c41
           by_cases c51 : t192 = 2
           ·rw [if_pos c51] at H
            have c51b0 : (t192 == 2) = true := beq_iff_eq.mpr c51
            have c51b1 : (t192 != 2) = false := bne_eq_false_iff_eq.mpr c51
            clear c51
            obtain ⟨y203, hy203⟩ : ∃ y_ : List Int, y_ = (([0, 100, 101] : List Int)) := ⟨_, rfl⟩
            replace H : ((spec_l1Rd_below.f t160 t193 3).bind fun bt206 => (if 0 ≤ bt206.1 then (if bt206.1 < (y203.length : Int) then (some (x7_1, y178, x11_2, rd y203 bt206.1)) else (none)) else (none))) = some (r1, r2, r3, r4) := by first | (rw [hy203]; with_reducible exact H) | (have H2_ := (Option.bind_some _ _).symm.trans H; rw [hy203]; with_reducible exact H2_) | (have H2_ := (Option.bind_some _ _).symm.trans H; with_reducible exact H2_) | with_reducible exact H | (rw [hy203]; exact H) | exact H
            have Ny203 := Aside0.mk hy203; clear hy203; replace H := Option.bind_eq_some_iff.mp H
            obtain ⟨⟨t206, t207⟩, A520, H⟩ := H
            replace H : (if 0 ≤ t206 then (if t206 < (y203.length : Int) then (some (x7_1, y178, x11_2, rd y203 t206)) else (none)) else (none)) = some (r1, r2, r3, r4) := H
            have A52 := Aside0.mk A520; clear A520
            by_cases c53 : 0 ≤ t206
            ·rw [if_pos c53] at H
             have c53b0 : decide (0 ≤ t206) = true := decide_eq_true c53
             clear c53
             by_cases c54 : t206 < (y203.length : Int)
             ·rw [if_pos c54] at H
              have c54b0 : decide (t206 < (y203.length : Int)) = true := decide_eq_true c54
              clear c54
              simp only [Option.some.injEq, Prod.mk.injEq] at H
              obtain ⟨rfl, rfl, rfl, rfl⟩ := H
              go_wp2_with (first | ((with_reducible refine gate_callee (f := 37) rfl ?_); refine gL_ (some 52) Try.func37 #[.pointer (some ⟨g162, 0, none⟩), .int .i64 4] ?_; (with_reducible refine (spec_l1Rd_below.calls g162 t160 x163001_2 4 t190 t191 w _ ?side1 ?side2 A31.out).mono ?_); (case side1 => repeat (first | (with_reducible first | exact HI162.out | apply IsS59.alloc | apply IsS59.drewN | apply IsS59.drew | apply IsS59.set_1) | exact HI162.out)); (case side2 => repeat (first | (with_reducible first | exact HB.out | apply below_alloc | apply pw_below_drewN | apply below_drew1 | refine below_set ?_ (IsS59.ge HI162.out)) | exact HB.out)); rintro e w55 ⟨rfl, hi, hb, hk⟩; refine ⟨_, rfl, ?_⟩; replace HO_7 := Aside0.mk (Kd.R_mono (Kd.R_keep (IsS59.apart (show IsS59 w _ g162 t160 x163001_2 from by repeat (first | (with_reducible first | exact HI162.out | apply IsS59.alloc | apply IsS59.drewN | apply IsS59.drew | apply IsS59.set_1) | exact HI162.out)) (rT_ HO_7) (by decide)) hk (fun _ h => h.2)) (fun _ h => h.1)); replace HO_10 := Aside0.mk (Kd.R_mono (Kd.R_keep (IsS59.apart (show IsS59 w _ g162 t160 x163001_2 from by repeat (first | (with_reducible first | exact HI162.out | apply IsS59.alloc | apply IsS59.drewN | apply IsS59.drew | apply IsS59.set_1) | exact HI162.out)) (rT_ HO_10) (by decide)) hk (fun _ h => h.2)) (fun _ h => h.1)); replace HO_11 := Aside0.mk (Kd.R_mono (Kd.R_keep (IsS59.apart (show IsS59 w _ g162 t160 x163001_2 from by repeat (first | (with_reducible first | exact HI162.out | apply IsS59.alloc | apply IsS59.drewN | apply IsS59.drew | apply IsS59.set_1) | exact HI162.out)) (rT_ HO_11) (by decide)) hk (fun _ h => h.2)) (fun _ h => h.1)); replace HB := Aside0.mk (hb); replace HI162 := Aside0.mk (hi); (try clear hb); (try clear hb2); (try clear hk); (try clear hi)) | ((with_reducible refine gate_callee (f := 37) rfl ?_); refine gL_ (some 55) Try.func37 #[.pointer (some ⟨g162, 0, none⟩), .int .i64 24] ?_; (with_reducible refine (spec_l1Rd_below.calls g162 t160 t191 24 t192 t193 w _ ?side1 ?side2 A32.out).mono ?_); (case side1 => repeat (first | (with_reducible first | exact HI162.out | apply IsS59.alloc | apply IsS59.drewN | apply IsS59.drew | apply IsS59.set_1) | exact HI162.out)); (case side2 => repeat (first | (with_reducible first | exact HB.out | apply below_alloc | apply pw_below_drewN | apply below_drew1 | refine below_set ?_ (IsS59.ge HI162.out)) | exact HB.out)); rintro e w56 ⟨rfl, hi, hb, hk⟩; refine ⟨_, rfl, ?_⟩; replace HO_7 := Aside0.mk (Kd.R_mono (Kd.R_keep (IsS59.apart (show IsS59 w _ g162 t160 t191 from by repeat (first | (with_reducible first | exact HI162.out | apply IsS59.alloc | apply IsS59.drewN | apply IsS59.drew | apply IsS59.set_1) | exact HI162.out)) (rT_ HO_7) (by decide)) hk (fun _ h => h.2)) (fun _ h => h.1)); replace HO_10 := Aside0.mk (Kd.R_mono (Kd.R_keep (IsS59.apart (show IsS59 w _ g162 t160 t191 from by repeat (first | (with_reducible first | exact HI162.out | apply IsS59.alloc | apply IsS59.drewN | apply IsS59.drew | apply IsS59.set_1) | exact HI162.out)) (rT_ HO_10) (by decide)) hk (fun _ h => h.2)) (fun _ h => h.1)); replace HO_11 := Aside0.mk (Kd.R_mono (Kd.R_keep (IsS59.apart (show IsS59 w _ g162 t160 t191 from by repeat (first | (with_reducible first | exact HI162.out | apply IsS59.alloc | apply IsS59.drewN | apply IsS59.drew | apply IsS59.set_1) | exact HI162.out)) (rT_ HO_11) (by decide)) hk (fun _ h => h.2)) (fun _ h => h.1)); replace HB := Aside0.mk (hb); replace HI162 := Aside0.mk (hi); (try clear hb); (try clear hb2); (try clear hk); (try clear hi)) | ((with_reducible refine gate_dst (N := 80) rfl ?_); refine Kd.R_lit (Kd.int .i64) _ 2 ?hg (N := 80) ?hd (xs := ([0, 100, 101] : List Int)) (inner := [.int .i64 0, .int .i64 100, .int .i64 101]) (ok := fun _ => True) (okp := fun _ => True) ?hr ?hp (fun _ hk => hk) trivial (Below.refl _ _) (Nat.le_refl _) (by simp) ?_; (case hd => rfl); (case hg => rfl); (case hr => first | (go_simp; done) | (go_simp; rfl)); (case hp => exact (Reps.one (show Kd.M (Kd.int .i64) _ _ _ 0 [.int .i64 0] from rfl) (Reps.one (show Kd.M (Kd.int .i64) _ _ _ 100 [.int .i64 100] from rfl) (Reps.one (show Kd.M (Kd.int .i64) _ _ _ 101 [.int .i64 101] from rfl) (Reps.none _ _))))); intro v204 w57 ho58 hb hg_ hnew_; clear hg_ hnew_; (first | rw [← Ny203.out] at ho58 | (simp only [Int.reduceToNat] at ho58; rw [← Ny203.out] at ho58)); have HO205 := Aside0.mk (Kd.R_lower (rN_ (rN_ (rN_ ho58 HO_7) HO_10) HO_11) (below_size (by repeat (first | (with_reducible first | exact HB.out | apply below_alloc | apply pw_below_drewN | apply below_drew1 | refine below_set ?_ (IsS59.ge HI162.out)) | exact HB.out)))); replace HO_7 := rE_ HO_7 ho58 hb; replace HO_10 := rE_ HO_10 ho58 hb; replace HO_11 := rE_ HO_11 ho58 hb; replace HB := Aside0.mk (below_step (by repeat (first | (with_reducible first | exact HB.out | apply below_alloc | apply pw_below_drewN | apply below_drew1 | refine below_set ?_ (IsS59.ge HI162.out)) | exact HB.out)) hb); replace HI162 := Aside0.mk (IsS59.below (by repeat (first | (with_reducible first | exact HI162.out | apply IsS59.alloc | apply IsS59.drewN | apply IsS59.drew | apply IsS59.set_1) | exact HI162.out)) hb); clear hb ho58) | ((with_reducible refine gate_callee (f := 37) rfl ?_); refine gL_ (some 82) Try.func37 #[.pointer (some ⟨g162, 0, none⟩), .int .i64 3] ?_; (with_reducible refine (spec_l1Rd_below.calls g162 t160 t193 3 t206 t207 w _ ?side1 ?side2 A52.out).mono ?_); (case side1 => repeat (first | (with_reducible first | exact HI162.out | apply IsS59.alloc | apply IsS59.drewN | apply IsS59.drew | apply IsS59.set_1) | exact HI162.out)); (case side2 => repeat (first | (with_reducible first | exact HB.out | apply below_alloc | apply pw_below_drewN | apply below_drew1 | refine below_set ?_ (IsS59.ge HI162.out)) | exact HB.out)); rintro e w59 ⟨rfl, hi, hb, hk⟩; refine ⟨_, rfl, ?_⟩; replace HO_7 := Aside0.mk (Kd.R_mono (Kd.R_keep (IsS59.apart (show IsS59 w _ g162 t160 t193 from by repeat (first | (with_reducible first | exact HI162.out | apply IsS59.alloc | apply IsS59.drewN | apply IsS59.drew | apply IsS59.set_1) | exact HI162.out)) (rT_ HO_7) (by decide)) hk (fun _ h => h.2)) (fun _ h => h.1)); replace HO_10 := Aside0.mk (Kd.R_mono (Kd.R_keep (IsS59.apart (show IsS59 w _ g162 t160 t193 from by repeat (first | (with_reducible first | exact HI162.out | apply IsS59.alloc | apply IsS59.drewN | apply IsS59.drew | apply IsS59.set_1) | exact HI162.out)) (rT_ HO_10) (by decide)) hk (fun _ h => h.2)) (fun _ h => h.1)); replace HO_11 := Aside0.mk (Kd.R_mono (Kd.R_keep (IsS59.apart (show IsS59 w _ g162 t160 t193 from by repeat (first | (with_reducible first | exact HI162.out | apply IsS59.alloc | apply IsS59.drewN | apply IsS59.drew | apply IsS59.set_1) | exact HI162.out)) (rT_ HO_11) (by decide)) hk (fun _ h => h.2)) (fun _ h => h.1)); replace HO205 := Aside0.mk (Kd.R_mono (Kd.R_keep (IsS59.apart (show IsS59 w _ g162 t160 t193 from by repeat (first | (with_reducible first | exact HI162.out | apply IsS59.alloc | apply IsS59.drewN | apply IsS59.drew | apply IsS59.set_1) | exact HI162.out)) (rT_ HO205) (by decide)) hk (fun _ h => h.2)) (fun _ h => h.1)); replace HB := Aside0.mk (hb); replace HI162 := Aside0.mk (hi); (try clear hb); (try clear hb2); (try clear hk); (try clear hi); obtain ⟨Ao60, co60, eo60⟩ := Kd.R_slice HO205.out; subst eo60; have p208 : 0 ≤ (t206 : Int) := of_decide_eq_true (by first | (with_reducible assumption) | assumption); have q208 : t206 < (y203.length : Int) := of_decide_eq_true (by first | (with_reducible assumption) | assumption); obtain ⟨ad208, e208, hx208_0⟩ := Kd.at_int (Kd.R_reads' HO205.out).2.2 t206 p208 q208; cases e208; replace p208 := eq_true p208; replace q208 := eq_true q208))
              refine bodyPost_ret (results_list (rs := [.tmp 2, .tmp 3, .tmp 4, .tmp 5]) rfl (by simp) (.tmp (.tmp (.tmp (.tmp .nil))))) rfl ?_
              exact ⟨_, _, _, by first | rfl | (simp [errW_none, errW_some] <;> rfl) | (simp only [← hji14]; first | rfl | (simp [errW_none, errW_some] <;> rfl)) | (simp [*, errW_none, errW_some] <;> rfl), by (with_reducible repeat (first | apply Kd.R_alloc | apply Kd.R_drewN | apply Kd.R_drew)); exact Kd.R_mono HO_7.out (fun _ hk => ⟨hk.1.1, hk.1.2⟩), by (with_reducible repeat (first | apply Kd.R_alloc | apply Kd.R_drewN | apply Kd.R_drew)); exact Kd.R_mono HO_10.out (fun _ hk => ⟨hk.1.1, hk.1.2⟩), by (with_reducible repeat (first | apply Kd.R_alloc | apply Kd.R_drewN | apply Kd.R_drew)); exact Kd.R_mono HO_11.out (fun _ hk => ⟨hk.1.1, hk.1.2⟩), by repeat (first | (with_reducible first | exact HB.out | apply below_alloc | apply pw_below_drewN | apply below_drew1 | refine below_set ?_ (IsS59.ge HI162.out)) | exact HB.out)⟩
             ·rw [if_neg c54] at H
              exact absurd H (by simp)
            ·rw [if_neg c53] at H
             exact absurd H (by simp)
           ·rw [if_neg c51] at H
            have c51b0 : (t192 == 2) = false := beq_eq_false_iff_ne.mpr c51
            have c51b1 : (t192 != 2) = true := bne_iff_ne.mpr c51
            by_cases c61 : t192 = 3
            ·rw [if_pos c61] at H
             have c61b0 : (t192 == 3) = true := beq_iff_eq.mpr c61
             have c61b1 : (t192 != 3) = false := bne_eq_false_iff_eq.mpr c61
             clear c61; replace H := Option.bind_eq_some_iff.mp H
             obtain ⟨⟨t209, t212⟩, A620, H⟩ := H
             replace H : (some (t209, y178, x11_2, wrap64 (1 + t190))) = some (r1, r2, r3, r4) := H
             have A62 := Aside0.mk A620; clear A620
             simp only [Option.some.injEq, Prod.mk.injEq] at H
             obtain ⟨rfl, rfl, rfl, rfl⟩ := H
             go_wp2_with (first | ((with_reducible refine gate_callee (f := 37) rfl ?_); refine gL_ (some 52) Try.func37 #[.pointer (some ⟨g162, 0, none⟩), .int .i64 4] ?_; (with_reducible refine (spec_l1Rd_below.calls g162 t160 x163001_2 4 t190 t191 w _ ?side1 ?side2 A31.out).mono ?_); (case side1 => repeat (first | (with_reducible first | exact HI162.out | apply IsS59.alloc | apply IsS59.drewN | apply IsS59.drew | apply IsS59.set_1) | exact HI162.out)); (case side2 => repeat (first | (with_reducible first | exact HB.out | apply below_alloc | apply pw_below_drewN | apply below_drew1 | refine below_set ?_ (IsS59.ge HI162.out)) | exact HB.out)); rintro e w63 ⟨rfl, hi, hb, hk⟩; refine ⟨_, rfl, ?_⟩; replace HO_7 := Aside0.mk (Kd.R_mono (Kd.R_keep (IsS59.apart (show IsS59 w _ g162 t160 x163001_2 from by repeat (first | (with_reducible first | exact HI162.out | apply IsS59.alloc | apply IsS59.drewN | apply IsS59.drew | apply IsS59.set_1) | exact HI162.out)) (rT_ HO_7) (by decide)) hk (fun _ h => h.2)) (fun _ h => h.1)); replace HO_10 := Aside0.mk (Kd.R_mono (Kd.R_keep (IsS59.apart (show IsS59 w _ g162 t160 x163001_2 from by repeat (first | (with_reducible first | exact HI162.out | apply IsS59.alloc | apply IsS59.drewN | apply IsS59.drew | apply IsS59.set_1) | exact HI162.out)) (rT_ HO_10) (by decide)) hk (fun _ h => h.2)) (fun _ h => h.1)); replace HO_11 := Aside0.mk (Kd.R_mono (Kd.R_keep (IsS59.apart (show IsS59 w _ g162 t160 x163001_2 from by repeat (first | (with_reducible first | exact HI162.out | apply IsS59.alloc | apply IsS59.drewN | apply IsS59.drew | apply IsS59.set_1) | exact HI162.out)) (rT_ HO_11) (by decide)) hk (fun _ h => h.2)) (fun _ h => h.1)); replace HB := Aside0.mk (hb); replace HI162 := Aside0.mk (hi); (try clear hb); (try clear hb2); (try clear hk); (try clear hi)) | ((with_reducible refine gate_callee (f := 37) rfl ?_); refine gL_ (some 55) Try.func37 #[.pointer (some ⟨g162, 0, none⟩), .int .i64 24] ?_; (with_reducible refine (spec_l1Rd_below.calls g162 t160 t191 24 t192 t193 w _ ?side1 ?side2 A32.out).mono ?_); (case side1 => repeat (first | (with_reducible first | exact HI162.out | apply IsS59.alloc | apply IsS59.drewN | apply IsS59.drew | apply IsS59.set_1) | exact HI162.out)); (case side2 => repeat (first | (with_reducible first | exact HB.out | apply below_alloc | apply pw_below_drewN | apply below_drew1 | refine below_set ?_ (IsS59.ge HI162.out)) | exact HB.out)); rintro e w64 ⟨rfl, hi, hb, hk⟩; refine ⟨_, rfl, ?_⟩; replace HO_7 := Aside0.mk (Kd.R_mono (Kd.R_keep (IsS59.apart (show IsS59 w _ g162 t160 t191 from by repeat (first | (with_reducible first | exact HI162.out | apply IsS59.alloc | apply IsS59.drewN | apply IsS59.drew | apply IsS59.set_1) | exact HI162.out)) (rT_ HO_7) (by decide)) hk (fun _ h => h.2)) (fun _ h => h.1)); replace HO_10 := Aside0.mk (Kd.R_mono (Kd.R_keep (IsS59.apart (show IsS59 w _ g162 t160 t191 from by repeat (first | (with_reducible first | exact HI162.out | apply IsS59.alloc | apply IsS59.drewN | apply IsS59.drew | apply IsS59.set_1) | exact HI162.out)) (rT_ HO_10) (by decide)) hk (fun _ h => h.2)) (fun _ h => h.1)); replace HO_11 := Aside0.mk (Kd.R_mono (Kd.R_keep (IsS59.apart (show IsS59 w _ g162 t160 t191 from by repeat (first | (with_reducible first | exact HI162.out | apply IsS59.alloc | apply IsS59.drewN | apply IsS59.drew | apply IsS59.set_1) | exact HI162.out)) (rT_ HO_11) (by decide)) hk (fun _ h => h.2)) (fun _ h => h.1)); replace HB := Aside0.mk (hb); replace HI162 := Aside0.mk (hi); (try clear hb); (try clear hb2); (try clear hk); (try clear hi)) | ((with_reducible refine gate_callee (f := 27) rfl ?_); refine gL_ (some 88) Try.func27 #[.pointer (some ⟨g162, 0, none⟩)] ?_; (with_reducible refine (spec_l19Draw.calls k2 g162 t160 t193 t209 t212 w _ ?side1 ?side2 A62.out).mono ?_); (case side1 => repeat (first | (with_reducible first | exact HI162.out | apply IsS59.alloc | apply IsS59.drewN | apply IsS59.drew | apply IsS59.set_1) | exact HI162.out)); (case side2 => repeat (first | (with_reducible first | exact HB.out | apply below_alloc | apply pw_below_drewN | apply below_drew1 | refine below_set ?_ (IsS59.ge HI162.out)) | exact HB.out)); rintro e w65 ⟨v210, rfl, ho0, hi, hb, hk⟩; refine ⟨_, rfl, ?_⟩; have HO211 := Aside0.mk (Kd.R_lower (rN_ (rN_ (rN_ ho0 HO_7) HO_10) HO_11) (below_size (by repeat (first | (with_reducible first | exact HB.out | apply below_alloc | apply pw_below_drewN | apply below_drew1 | refine below_set ?_ (IsS59.ge HI162.out)) | exact HB.out)))); replace HO_7 := Aside0.mk (Kd.R_mono (Kd.R_told (Kd.R_oldK (IsS59.apart (show IsS59 w _ g162 t160 t193 from by repeat (first | (with_reducible first | exact HI162.out | apply IsS59.alloc | apply IsS59.drewN | apply IsS59.drew | apply IsS59.set_1) | exact HI162.out)) (rT_ HO_7) (by decide)) hk) (Kd.R_base ho0)) (fun _ h_ => h_.1)); replace HO_10 := Aside0.mk (Kd.R_mono (Kd.R_told (Kd.R_oldK (IsS59.apart (show IsS59 w _ g162 t160 t193 from by repeat (first | (with_reducible first | exact HI162.out | apply IsS59.alloc | apply IsS59.drewN | apply IsS59.drew | apply IsS59.set_1) | exact HI162.out)) (rT_ HO_10) (by decide)) hk) (Kd.R_base ho0)) (fun _ h_ => h_.1)); replace HO_11 := Aside0.mk (Kd.R_mono (Kd.R_told (Kd.R_oldK (IsS59.apart (show IsS59 w _ g162 t160 t193 from by repeat (first | (with_reducible first | exact HI162.out | apply IsS59.alloc | apply IsS59.drewN | apply IsS59.drew | apply IsS59.set_1) | exact HI162.out)) (rT_ HO_11) (by decide)) hk) (Kd.R_base ho0)) (fun _ h_ => h_.1)); replace HB := Aside0.mk (hb); replace HI162 := Aside0.mk (hi); (try clear hb); (try clear hb2); (try clear hk); (try clear hi); (try clear ho0)))
             refine bodyPost_ret (results_list (rs := [.tmp 2, .tmp 3, .tmp 4, .tmp 5]) rfl (by simp) (.tmp (.tmp (.tmp (.tmp .nil))))) rfl ?_
             exact ⟨_, _, _, by first | rfl | (simp [errW_none, errW_some] <;> rfl) | (simp only [← hji14]; first | rfl | (simp [errW_none, errW_some] <;> rfl)) | (simp [*, errW_none, errW_some] <;> rfl), by (with_reducible repeat (first | apply Kd.R_alloc | apply Kd.R_drewN | apply Kd.R_drew)); exact Kd.R_mono HO211.out (fun _ hk => ⟨hk.1.2, hk.2⟩), by (with_reducible repeat (first | apply Kd.R_alloc | apply Kd.R_drewN | apply Kd.R_drew)); exact Kd.R_mono HO_10.out (fun _ hk => ⟨hk.2, hk.1.2⟩), by (with_reducible repeat (first | apply Kd.R_alloc | apply Kd.R_drewN | apply Kd.R_drew)); exact Kd.R_mono HO_11.out (fun _ hk => ⟨hk.2, hk.1.2⟩), by repeat (first | (with_reducible first | exact HB.out | apply below_alloc | apply pw_below_drewN | apply below_drew1 | refine below_set ?_ (IsS59.ge HI162.out)) | exact HB.out)⟩
            ·rw [if_neg c61] at H
             have c61b0 : (t192 == 3) = false := beq_eq_false_iff_ne.mpr c61
             have c61b1 : (t192 != 3) = true := bne_iff_ne.mpr c61
             by_cases c66 : t192 = 4
             ·rw [if_pos c66] at H
              have c66b0 : (t192 == 4) = true := beq_iff_eq.mpr c66
              have c66b1 : (t192 != 4) = false := bne_eq_false_iff_eq.mpr c66
              clear c66
              by_cases c67 : 0 ≤ (y178.length : Int)
              ·rw [if_pos c67] at H
               have c67b0 := eq_true c67
               have c67b1 : decide (0 ≤ (y178.length : Int)) = true := decide_eq_true c67
               clear c67
               obtain ⟨y213, hy213⟩ : ∃ y_ : List Int, y_ = (y178.take (0 : Int).toNat) := ⟨_, rfl⟩
               replace H : (if 0 ≤ (x11_2.length : Int) then (some (x7_1, y213, (x11_2.take (0 : Int).toNat), wrap64 (1 + t190))) else (none)) = some (r1, r2, r3, r4) := by first | (rw [hy213]; with_reducible exact H) | (have H2_ := (Option.bind_some _ _).symm.trans H; rw [hy213]; with_reducible exact H2_) | (have H2_ := (Option.bind_some _ _).symm.trans H; with_reducible exact H2_) | with_reducible exact H | (rw [hy213]; exact H) | exact H
               have Ny213 := Aside0.mk hy213; clear hy213
               by_cases c68 : 0 ≤ (x11_2.length : Int)
               ·rw [if_pos c68] at H
                have c68b0 := eq_true c68
                have c68b1 : decide (0 ≤ (x11_2.length : Int)) = true := decide_eq_true c68
                clear c68
                obtain ⟨y216, hy216⟩ : ∃ y_ : List Int, y_ = (x11_2.take (0 : Int).toNat) := ⟨_, rfl⟩
                replace H : (some (x7_1, y213, y216, wrap64 (1 + t190))) = some (r1, r2, r3, r4) := by first | (rw [hy216]; with_reducible exact H) | (have H2_ := (Option.bind_some _ _).symm.trans H; rw [hy216]; with_reducible exact H2_) | (have H2_ := (Option.bind_some _ _).symm.trans H; with_reducible exact H2_) | with_reducible exact H | (rw [hy216]; exact H) | exact H
                have Ny216 := Aside0.mk hy216; clear hy216
                simp only [Option.some.injEq, Prod.mk.injEq] at H
                obtain ⟨rfl, rfl, rfl, rfl⟩ := H
                go_wp2_with (first | ((with_reducible refine gate_callee (f := 37) rfl ?_); refine gL_ (some 52) Try.func37 #[.pointer (some ⟨g162, 0, none⟩), .int .i64 4] ?_; (with_reducible refine (spec_l1Rd_below.calls g162 t160 x163001_2 4 t190 t191 w _ ?side1 ?side2 A31.out).mono ?_); (case side1 => repeat (first | (with_reducible first | exact HI162.out | apply IsS59.alloc | apply IsS59.drewN | apply IsS59.drew | apply IsS59.set_1) | exact HI162.out)); (case side2 => repeat (first | (with_reducible first | exact HB.out | apply below_alloc | apply pw_below_drewN | apply below_drew1 | refine below_set ?_ (IsS59.ge HI162.out)) | exact HB.out)); rintro e w69 ⟨rfl, hi, hb, hk⟩; refine ⟨_, rfl, ?_⟩; replace HO_7 := Aside0.mk (Kd.R_mono (Kd.R_keep (IsS59.apart (show IsS59 w _ g162 t160 x163001_2 from by repeat (first | (with_reducible first | exact HI162.out | apply IsS59.alloc | apply IsS59.drewN | apply IsS59.drew | apply IsS59.set_1) | exact HI162.out)) (rT_ HO_7) (by decide)) hk (fun _ h => h.2)) (fun _ h => h.1)); replace HO_10 := Aside0.mk (Kd.R_mono (Kd.R_keep (IsS59.apart (show IsS59 w _ g162 t160 x163001_2 from by repeat (first | (with_reducible first | exact HI162.out | apply IsS59.alloc | apply IsS59.drewN | apply IsS59.drew | apply IsS59.set_1) | exact HI162.out)) (rT_ HO_10) (by decide)) hk (fun _ h => h.2)) (fun _ h => h.1)); replace HO_11 := Aside0.mk (Kd.R_mono (Kd.R_keep (IsS59.apart (show IsS59 w _ g162 t160 x163001_2 from by repeat (first | (with_reducible first | exact HI162.out | apply IsS59.alloc | apply IsS59.drewN | apply IsS59.drew | apply IsS59.set_1) | exact HI162.out)) (rT_ HO_11) (by decide)) hk (fun _ h => h.2)) (fun _ h => h.1)); replace HB := Aside0.mk (hb); replace HI162 := Aside0.mk (hi); (try clear hb); (try clear hb2); (try clear hk); (try clear hi)) | ((with_reducible refine gate_callee (f := 37) rfl ?_); refine gL_ (some 55) Try.func37 #[.pointer (some ⟨g162, 0, none⟩), .int .i64 24] ?_; (with_reducible refine (spec_l1Rd_below.calls g162 t160 t191 24 t192 t193 w _ ?side1 ?side2 A32.out).mono ?_); (case side1 => repeat (first | (with_reducible first | exact HI162.out | apply IsS59.alloc | apply IsS59.drewN | apply IsS59.drew | apply IsS59.set_1) | exact HI162.out)); (case side2 => repeat (first | (with_reducible first | exact HB.out | apply below_alloc | apply pw_below_drewN | apply below_drew1 | refine below_set ?_ (IsS59.ge HI162.out)) | exact HB.out)); rintro e w70 ⟨rfl, hi, hb, hk⟩; refine ⟨_, rfl, ?_⟩; replace HO_7 := Aside0.mk (Kd.R_mono (Kd.R_keep (IsS59.apart (show IsS59 w _ g162 t160 t191 from by repeat (first | (with_reducible first | exact HI162.out | apply IsS59.alloc | apply IsS59.drewN | apply IsS59.drew | apply IsS59.set_1) | exact HI162.out)) (rT_ HO_7) (by decide)) hk (fun _ h => h.2)) (fun _ h => h.1)); replace HO_10 := Aside0.mk (Kd.R_mono (Kd.R_keep (IsS59.apart (show IsS59 w _ g162 t160 t191 from by repeat (first | (with_reducible first | exact HI162.out | apply IsS59.alloc | apply IsS59.drewN | apply IsS59.drew | apply IsS59.set_1) | exact HI162.out)) (rT_ HO_10) (by decide)) hk (fun _ h => h.2)) (fun _ h => h.1)); replace HO_11 := Aside0.mk (Kd.R_mono (Kd.R_keep (IsS59.apart (show IsS59 w _ g162 t160 t191 from by repeat (first | (with_reducible first | exact HI162.out | apply IsS59.alloc | apply IsS59.drewN | apply IsS59.drew | apply IsS59.set_1) | exact HI162.out)) (rT_ HO_11) (by decide)) hk (fun _ h => h.2)) (fun _ h => h.1)); replace HB := Aside0.mk (hb); replace HI162 := Aside0.mk (hi); (try clear hb); (try clear hb2); (try clear hk); (try clear hi); have q71 : (0 : Int) ≤ ((y178.length : Int) : Int) := of_decide_eq_true (by first | (with_reducible assumption) | assumption); obtain ⟨i071, hi071, _, hsz71, _⟩ := info_parts info2; have hcut71 := cut_to (P := Try.prog) 24 2 .i64 Try.underlying24 hi071 Ao20 y178.length co20 0 (by omega) q71 (Kd.R_reads' HO_10.out).2.1; have hr71 := Kd.R_take (m := (0 : Int).toNat) HO_10.out (by omega); have hy71 : y213.length = (0 : Int).toNat := (by rw [Ny213.out, List.length_take]; omega); rw [← Ny213.out] at hr71; rw [← hy71] at hr71 hcut71; clear hy71 hi071 hsz71 HO_10; have HO215 := Aside0.mk hr71; clear hr71; replace q71 := eq_true q71; obtain ⟨Ao72, co72, eo72⟩ := Kd.R_slice HO_11.out; subst eo72; have q73 : (0 : Int) ≤ ((x11_2.length : Int) : Int) := of_decide_eq_true (by first | (with_reducible assumption) | assumption); obtain ⟨i073, hi073, _, hsz73, _⟩ := info_parts info2; have hcut73 := cut_to (P := Try.prog) 24 2 .i64 Try.underlying24 hi073 Ao72 x11_2.length co72 0 (by omega) q73 (Kd.R_reads' HO_11.out).2.1; have hr73 := Kd.R_take (m := (0 : Int).toNat) HO_11.out (by omega); have hy73 : y216.length = (0 : Int).toNat := (by rw [Ny216.out, List.length_take]; omega); rw [← Ny216.out] at hr73; rw [← hy73] at hr73 hcut73; clear hy73 hi073 hsz73 HO_11; have HO218 := Aside0.mk hr73; clear hr73; replace q73 := eq_true q73))
                refine bodyPost_ret (results_list (rs := [.tmp 2, .tmp 3, .tmp 4, .tmp 5]) rfl (by simp) (.tmp (.tmp (.tmp (.tmp .nil))))) rfl ?_
                exact ⟨_, _, _, by first | rfl | (simp [errW_none, errW_some] <;> rfl) | (simp only [← hji14]; first | rfl | (simp [errW_none, errW_some] <;> rfl)) | (simp [*, errW_none, errW_some] <;> rfl), by (with_reducible repeat (first | apply Kd.R_alloc | apply Kd.R_drewN | apply Kd.R_drew)); first | exact HO_7.out | exact Kd.R_mono HO_7.out (fun _ hk => ⟨ob_ hk.1, ob_ hk.2⟩), by (with_reducible repeat (first | apply Kd.R_alloc | apply Kd.R_drewN | apply Kd.R_drew)); first | exact HO215.out | exact Kd.R_mono HO215.out (fun _ hk => ⟨hk.1, ob_ hk.2⟩), by (with_reducible repeat (first | apply Kd.R_alloc | apply Kd.R_drewN | apply Kd.R_drew)); first | exact HO218.out | exact Kd.R_mono HO218.out (fun _ hk => ⟨hk.1, ob_ hk.2⟩), by repeat (first | (with_reducible first | exact HB.out | apply below_alloc | apply pw_below_drewN | apply below_drew1 | refine below_set ?_ (IsS59.ge HI162.out)) | exact HB.out)⟩
               ·rw [if_neg c68] at H
                exact absurd H (by simp)
              ·rw [if_neg c67] at H
               exact absurd H (by simp)
             ·rw [if_neg c66] at H
              have c66b0 : (t192 == 4) = false := beq_eq_false_iff_ne.mpr c66
              have c66b1 : (t192 != 4) = true := bne_iff_ne.mpr c66
              simp only [Option.some.injEq, Prod.mk.injEq] at H
              obtain ⟨rfl, rfl, rfl, rfl⟩ := H
              go_wp2_with (first | ((with_reducible refine gate_callee (f := 37) rfl ?_); refine gL_ (some 52) Try.func37 #[.pointer (some ⟨g162, 0, none⟩), .int .i64 4] ?_; (with_reducible refine (spec_l1Rd_below.calls g162 t160 x163001_2 4 t190 t191 w _ ?side1 ?side2 A31.out).mono ?_); (case side1 => repeat (first | (with_reducible first | exact HI162.out | apply IsS59.alloc | apply IsS59.drewN | apply IsS59.drew | apply IsS59.set_1) | exact HI162.out)); (case side2 => repeat (first | (with_reducible first | exact HB.out | apply below_alloc | apply pw_below_drewN | apply below_drew1 | refine below_set ?_ (IsS59.ge HI162.out)) | exact HB.out)); rintro e w74 ⟨rfl, hi, hb, hk⟩; refine ⟨_, rfl, ?_⟩; replace HO_7 := Aside0.mk (Kd.R_mono (Kd.R_keep (IsS59.apart (show IsS59 w _ g162 t160 x163001_2 from by repeat (first | (with_reducible first | exact HI162.out | apply IsS59.alloc | apply IsS59.drewN | apply IsS59.drew | apply IsS59.set_1) | exact HI162.out)) (rT_ HO_7) (by decide)) hk (fun _ h => h.2)) (fun _ h => h.1)); replace HO_10 := Aside0.mk (Kd.R_mono (Kd.R_keep (IsS59.apart (show IsS59 w _ g162 t160 x163001_2 from by repeat (first | (with_reducible first | exact HI162.out | apply IsS59.alloc | apply IsS59.drewN | apply IsS59.drew | apply IsS59.set_1) | exact HI162.out)) (rT_ HO_10) (by decide)) hk (fun _ h => h.2)) (fun _ h => h.1)); replace HO_11 := Aside0.mk (Kd.R_mono (Kd.R_keep (IsS59.apart (show IsS59 w _ g162 t160 x163001_2 from by repeat (first | (with_reducible first | exact HI162.out | apply IsS59.alloc | apply IsS59.drewN | apply IsS59.drew | apply IsS59.set_1) | exact HI162.out)) (rT_ HO_11) (by decide)) hk (fun _ h => h.2)) (fun _ h => h.1)); replace HB := Aside0.mk (hb); replace HI162 := Aside0.mk (hi); (try clear hb); (try clear hb2); (try clear hk); (try clear hi)) | ((with_reducible refine gate_callee (f := 37) rfl ?_); refine gL_ (some 55) Try.func37 #[.pointer (some ⟨g162, 0, none⟩), .int .i64 24] ?_; (with_reducible refine (spec_l1Rd_below.calls g162 t160 t191 24 t192 t193 w _ ?side1 ?side2 A32.out).mono ?_); (case side1 => repeat (first | (with_reducible first | exact HI162.out | apply IsS59.alloc | apply IsS59.drewN | apply IsS59.drew | apply IsS59.set_1) | exact HI162.out)); (case side2 => repeat (first | (with_reducible first | exact HB.out | apply below_alloc | apply pw_below_drewN | apply below_drew1 | refine below_set ?_ (IsS59.ge HI162.out)) | exact HB.out)); rintro e w75 ⟨rfl, hi, hb, hk⟩; refine ⟨_, rfl, ?_⟩; replace HO_7 := Aside0.mk (Kd.R_mono (Kd.R_keep (IsS59.apart (show IsS59 w _ g162 t160 t191 from by repeat (first | (with_reducible first | exact HI162.out | apply IsS59.alloc | apply IsS59.drewN | apply IsS59.drew | apply IsS59.set_1) | exact HI162.out)) (rT_ HO_7) (by decide)) hk (fun _ h => h.2)) (fun _ h => h.1)); replace HO_10 := Aside0.mk (Kd.R_mono (Kd.R_keep (IsS59.apart (show IsS59 w _ g162 t160 t191 from by repeat (first | (with_reducible first | exact HI162.out | apply IsS59.alloc | apply IsS59.drewN | apply IsS59.drew | apply IsS59.set_1) | exact HI162.out)) (rT_ HO_10) (by decide)) hk (fun _ h => h.2)) (fun _ h => h.1)); replace HO_11 := Aside0.mk (Kd.R_mono (Kd.R_keep (IsS59.apart (show IsS59 w _ g162 t160 t191 from by repeat (first | (with_reducible first | exact HI162.out | apply IsS59.alloc | apply IsS59.drewN | apply IsS59.drew | apply IsS59.set_1) | exact HI162.out)) (rT_ HO_11) (by decide)) hk (fun _ h => h.2)) (fun _ h => h.1)); replace HB := Aside0.mk (hb); replace HI162 := Aside0.mk (hi); (try clear hb); (try clear hb2); (try clear hk); (try clear hi)))
              refine bodyPost_ret (results_list (rs := [.tmp 2, .tmp 3, .tmp 4, .tmp 5]) rfl (by simp) (.tmp (.tmp (.tmp (.tmp .nil))))) rfl ?_
              exact ⟨_, _, _, by first | rfl | (simp [errW_none, errW_some] <;> rfl) | (simp only [← hji14]; first | rfl | (simp [errW_none, errW_some] <;> rfl)) | (simp [*, errW_none, errW_some] <;> rfl), by (with_reducible repeat (first | apply Kd.R_alloc | apply Kd.R_drewN | apply Kd.R_drew)); exact HO_7.out, by (with_reducible repeat (first | apply Kd.R_alloc | apply Kd.R_drewN | apply Kd.R_drew)); exact HO_10.out, by (with_reducible repeat (first | apply Kd.R_alloc | apply Kd.R_drewN | apply Kd.R_drew)); exact HO_11.out, by repeat (first | (with_reducible first | exact HB.out | apply below_alloc | apply pw_below_drewN | apply below_drew1 | refine below_set ?_ (IsS59.ge HI162.out)) | exact HB.out)⟩
     ·rw [if_neg c16] at H
      exact absurd H (by simp)
    ·rw [if_neg c15] at H
     exact absurd H (by simp)

/-! ### spec_l2In: function 42 -/
def spec_l2In.f (a0 : Int) (a1 : Int) (a2 : Int) : Option (Bool) := if a0 ≥ a1 then (some (decide (a0 ≤ a2))) else (some false)
set_option maxHeartbeats 8000000 in
set_option maxRecDepth 100000 in
theorem spec_l2In.calls (a0 : Int) (a1 : Int) (a2 : Int) (r : Bool) (w : World) (h : spec_l2In.f a0 a1 a2 = some r) :
  Calls Try.prog 42 #[.int .i64 a0, .int .i64 a1, .int .i64 a2] w fun e w' => e = .returned (.bool r) ∧ Drawn0 w w' := by
 have H : (if a0 ≥ a1 then (some (decide (a0 ≤ a2))) else (some false)) = some r := h
 clear h
 by_cases c4 : a0 ≥ a1
 ·rw [if_pos c4] at H
  have c4b0 : decide (a1 ≤ a0) = true := decide_eq_true c4
  clear c4
  obtain rfl := Option.some.inj H
  go_enter Try.func42, Try.ntmps42
  go_wp2
  go_ret
  exact ⟨by first | rfl | (simp; done) | (simp [*]; done), by repeat (first | exact Drawn0.refl _ | apply Drawn0.step)⟩
 ·rw [if_neg c4] at H
  have c4b0 : decide (a1 ≤ a0) = false := decide_eq_false c4
  clear c4
  obtain rfl := Option.some.inj H
  go_enter Try.func42, Try.ntmps42
  go_wp2
  go_ret
  exact ⟨by first | rfl | (simp; done) | (simp [*]; done), by repeat (first | exact Drawn0.refl _ | apply Drawn0.step)⟩

/-! ### spec_l15All: function 46 -/
def spec_l15All.l0 : Nat → List Int → Int → Int → Int → Option (Bool)
 | 0, _, _, _, _ => none
 | k + 1, x0, x2, x3, x9 => if x9 < (x0.length : Int) then (if 0 ≤ x9 then ((spec_l2In.f (rd x0 x9) x2 x3).bind fun t220 => (if t220 = true then (spec_l15All.l0 k x0 x2 x3 (wrap64 (x9 + 1))) else (some false))) else (none)) else (some true)
def spec_l15All.f (k : Nat) (l0 : List Int) (a1 : Int) (a2 : Int) (a3 : Int) : Option (Bool) := if (l0.length : Int) = a1 then (spec_l15All.l0 k l0 a2 a3 0) else (some false)
theorem spec_l15All.mono_l : ∀ k, (∀ y0 y1 y2 y3, LeO (spec_l15All.l0 k y0 y1 y2 y3) (spec_l15All.l0 (k + 1) y0 y1 y2 y3))
 | 0 => fun _ _ _ _ r h => by simp [spec_l15All.l0] at h
 | k + 1 => by
  have ih0 := spec_l15All.mono_l k
  ·intro y0 y1 y2 y3
   unfold spec_l15All.l0
   repeat' first
   | (with_reducible exact ih0 _ _ _ _)
   | (with_reducible exact LeO.refl _)
   | (with_reducible exact LeO.none _)
   | (with_reducible refine LeO.ite ?_ ?_)
   | (with_reducible refine LeO.bind ?_ (fun _ => ?_))
   | exact ih0 _ _ _ _
   | exact LeO.none _
   | refine LeO.ite ?_ ?_
   | refine LeO.bind ?_ (fun _ => ?_)
theorem spec_l15All.mono : ∀ a0 a1 a2 a3 k, LeO (spec_l15All.f k a0 a1 a2 a3) (spec_l15All.f (k + 1) a0 a1 a2 a3) := by
 intro a0 a1 a2 a3 k
 have ih0 := spec_l15All.mono_l k
 unfold spec_l15All.f
 repeat' first
   | (with_reducible exact ih0 _ _ _ _)
   | (with_reducible exact LeO.refl _)
   | (with_reducible exact LeO.none _)
   | (with_reducible refine LeO.ite ?_ ?_)
   | (with_reducible refine LeO.bind ?_ (fun _ => ?_))
   | exact ih0 _ _ _ _
   | exact LeO.none _
   | refine LeO.ite ?_ ?_
   | refine LeO.bind ?_ (fun _ => ?_)
set_option maxHeartbeats 8000000 in
set_option maxRecDepth 100000 in
theorem spec_l15All.calls (k : Nat) (A0 : Option Addr) (c0 : Nat) (l0 : List Int) (a1 : Int) (a2 : Int) (a3 : Int) (r : Bool) (w : World) (hr0 : Kd.C (Kd.int .i64) w A0 l0.length l0) (hc0 : l0.length ≤ c0) (h : spec_l15All.f k l0 a1 a2 a3 = some r) :
  Calls Try.prog 46 #[.slice A0 l0.length c0, .int .i64 a1, .int .i64 a2, .int .i64 a3] w fun e w' => e = .returned (.bool r) ∧ Drawn0 w w' := by
 have HR0 := Aside0.mk hr0; have HC0 := Aside0.mk hc0; clear hr0 hc0
 have H : (if (l0.length : Int) = a1 then (spec_l15All.l0 k l0 a2 a3 0) else (some false)) = some r := h
 clear h
 by_cases c5 : (l0.length : Int) = a1
 ·rw [if_pos c5] at H
  have c5b0 : ((l0.length : Int) == a1) = true := beq_iff_eq.mpr c5
  have c5b1 : ((l0.length : Int) != a1) = false := bne_eq_false_iff_eq.mpr c5
  clear c5; have H' := Aside0.mk H; clear H
  go_enter Try.func46, Try.ntmps46
  go_wp2
  go_loopg [9] k (fun kq v9 w' => ∃ (x9_1 : Int), v9 = .int .i64 x9_1 ∧ Aside0 (spec_l15All.l0 kq l0 a2 a3 x9_1 = some r) ∧ Aside0 (kq ≤ k) ∧ Drawn0 w w')
  case atStart => exact ⟨(0), (by first | rfl | (simp; done) | (simp [*]; done)), H', ⟨Nat.le_refl _⟩, by repeat (first | exact Drawn0.refl _ | apply Drawn0.step)⟩
  case round =>
   clear H'; (try clear p2); (try clear c4); (try clear c5); (try clear c5b0); (try clear c5b1)
   obtain ⟨x9_1, rfl, HA, HK1, ⟨m1, rfl⟩⟩ := hrel
   cases gk with
   | zero => exact absurd HA.out (by simp [spec_l15All.l0])
   | succ k1 =>
    have H := HA.out; clear HA
    simp only [spec_l15All.l0] at H
    by_cases c6 : x9_1 < (l0.length : Int)
    ·rw [if_pos c6] at H
     have c6b0 : decide (x9_1 < (l0.length : Int)) = true := decide_eq_true c6
     clear c6
     by_cases c7 : 0 ≤ x9_1
     ·rw [if_pos c7] at H
      have c7b0 : decide (0 ≤ x9_1) = true := decide_eq_true c7
      clear c7; replace H := Option.bind_eq_some_iff.mp H
      obtain ⟨t220, A80, H⟩ := H
      replace H : (if t220 = true then (spec_l15All.l0 k1 l0 a2 a3 (wrap64 (x9_1 + 1))) else (some false)) = some r := H
      have A8 := Aside0.mk A80; clear A80
      by_cases c9 : t220 = true
      ·subst c9
       have H1 : (spec_l15All.l0 k1 l0 a2 a3 (wrap64 (x9_1 + 1))) = some r := by rw [if_pos rfl] at H; exact H
       clear H; have H := H1; clear H1; have H' := Aside0.mk H; clear H
       have p219 : 0 ≤ (x9_1 : Int) := of_decide_eq_true (by first | (with_reducible assumption) | assumption)
       have q219 : x9_1 < (l0.length : Int) := of_decide_eq_true (by first | (with_reducible assumption) | assumption)
       obtain ⟨ad219, e219, hx219_0⟩ := Kd.at_int HR0.out x9_1 p219 q219
       cases e219
       replace p219 := eq_true p219; replace q219 := eq_true q219
       go_wp2_with (first | ((with_reducible refine gate_callee (f := 42) rfl ?_); refine gL_ (some 26) Try.func42 #[.int .i64 (rd l0 x9_1), .int .i64 a2, .int .i64 a3] ?_; (with_reducible refine (spec_l2In.calls (rd l0 x9_1) a2 a3 true _ A8.out).mono ?_); rintro e w' ⟨rfl, ⟨nd, rfl⟩⟩; refine ⟨_, rfl, ?_⟩))
       go_roundg k1
       case measure => have := HK1.out; omega
       case rel => exact ⟨(wrap64 (x9_1 + 1)), (by first | rfl | (simp; done) | (simp [*]; done)), H', ⟨by have := HK1.out; omega⟩, by repeat (first | exact Drawn0.refl _ | apply Drawn0.step)⟩
      ·replace c9 := Bool.eq_false_iff.mpr c9
       subst c9
       have H1 : (some false) = some r := by rw [if_neg (show ¬ (false = true) by decide)] at H; exact H
       clear H; have H := H1; clear H1
       obtain rfl := Option.some.inj H
       have p219 : 0 ≤ (x9_1 : Int) := of_decide_eq_true (by first | (with_reducible assumption) | assumption)
       have q219 : x9_1 < (l0.length : Int) := of_decide_eq_true (by first | (with_reducible assumption) | assumption)
       obtain ⟨ad219, e219, hx219_0⟩ := Kd.at_int HR0.out x9_1 p219 q219
       cases e219
       replace p219 := eq_true p219; replace q219 := eq_true q219
       go_wp2_with (first | ((with_reducible refine gate_callee (f := 42) rfl ?_); refine gL_ (some 26) Try.func42 #[.int .i64 (rd l0 x9_1), .int .i64 a2, .int .i64 a3] ?_; (with_reducible refine (spec_l2In.calls (rd l0 x9_1) a2 a3 false _ A8.out).mono ?_); rintro e w' ⟨rfl, ⟨nd, rfl⟩⟩; refine ⟨_, rfl, ?_⟩))
       go_ret
       exact ⟨by first | rfl | (simp; done) | (simp [*]; done), by repeat (first | exact Drawn0.refl _ | apply Drawn0.step)⟩
     ·rw [if_neg c7] at H
      exact absurd H (by simp)
    ·rw [if_neg c6] at H
     have c6b0 : decide (x9_1 < (l0.length : Int)) = false := decide_eq_false c6
     clear c6
     obtain rfl := Option.some.inj H
     go_wp2
     go_ret
     exact ⟨by first | rfl | (simp; done) | (simp [*]; done), by repeat (first | exact Drawn0.refl _ | apply Drawn0.step)⟩
 ·rw [if_neg c5] at H
  have c5b0 : ((l0.length : Int) == a1) = false := beq_eq_false_iff_ne.mpr c5
  have c5b1 : ((l0.length : Int) != a1) = true := bne_iff_ne.mpr c5
  obtain rfl := Option.some.inj H
  go_enter Try.func46, Try.ntmps46
  go_wp2
  go_ret
  exact ⟨by first | rfl | (simp; done) | (simp [*]; done), by repeat (first | exact Drawn0.refl _ | apply Drawn0.step)⟩

/-! ### spec_l19Ok: function 29 -/
def spec_l19Ok.f (k : Nat) (l0 : List Int) : Option (Bool) := if (l0.length : Int) ≥ 1 then (if (l0.length : Int) ≤ 500 then ((spec_l15All.f k l0 (l0.length : Int) (-100000) 100000).bind fun t221 => (some t221)) else (some false)) else (some false)
theorem spec_l19Ok.mono : ∀ a0 k, LeO (spec_l19Ok.f k a0) (spec_l19Ok.f (k + 1) a0) := by
 intro a0 k
 unfold spec_l19Ok.f
 repeat' first
   | (with_reducible exact spec_l15All.mono _ _ _ _ _)
   | (with_reducible exact LeO.refl _)
   | (with_reducible exact LeO.none _)
   | (with_reducible refine LeO.ite ?_ ?_)
   | (with_reducible refine LeO.bind ?_ (fun _ => ?_))
   | exact spec_l15All.mono _ _ _ _ _
   | exact LeO.none _
   | refine LeO.ite ?_ ?_
   | refine LeO.bind ?_ (fun _ => ?_)
set_option maxHeartbeats 8000000 in
set_option maxRecDepth 100000 in
theorem spec_l19Ok.calls (k : Nat) (A0 : Option Addr) (c0 : Nat) (l0 : List Int) (r : Bool) (w : World) (hr0 : Kd.C (Kd.int .i64) w A0 l0.length l0) (hc0 : l0.length ≤ c0) (h : spec_l19Ok.f k l0 = some r) :
  Calls Try.prog 29 #[.slice A0 l0.length c0] w fun e w' => e = .returned (.bool r) ∧ Drawn0 w w' := by
 have HR0 := Aside0.mk hr0; have HC0 := Aside0.mk hc0; clear hr0 hc0
 have H : (if (l0.length : Int) ≥ 1 then (if (l0.length : Int) ≤ 500 then ((spec_l15All.f k l0 (l0.length : Int) (-100000) 100000).bind fun t221 => (some t221)) else (some false)) else (some false)) = some r := h
 clear h
 by_cases c2 : (l0.length : Int) ≥ 1
 ·rw [if_pos c2] at H
  have c2b0 : decide (1 ≤ (l0.length : Int)) = true := decide_eq_true c2
  have c2b1 : decide (1 ≤ l0.length) = true := decide_eq_true (by omega)
  clear c2
  by_cases c3 : (l0.length : Int) ≤ 500
  ·rw [if_pos c3] at H
   have c3b0 : decide ((l0.length : Int) ≤ 500) = true := decide_eq_true c3
   have c3b1 : decide (l0.length ≤ 500) = true := decide_eq_true (by omega)
   clear c3; replace H := Option.bind_eq_some_iff.mp H
   obtain ⟨t221, A40, H⟩ := H
   replace H : (some t221) = some r := H
   have A4 := Aside0.mk A40; clear A40
   obtain rfl := Option.some.inj H
   go_enter Try.func29, Try.ntmps29
   go_wp2_with (first | (go_at_call 46; (with_reducible refine (spec_l15All.calls k _ _ l0 (l0.length : Int) (-100000) 100000 t221 _ ?side1 ?side2 A4.out).mono ?_); (case side1 => repeat (first | exact HR0.out | (with_reducible refine Kd.C_alloc ?_ _) | (with_reducible refine Kd.C_drewN ?_ _) | (with_reducible refine Kd.C_drew ?_))); (case side2 => exact HC0.out); rintro e w' ⟨rfl, ⟨nd, rfl⟩⟩))
   go_ret
   exact ⟨by first | rfl | (simp; done) | (simp [*]; done), by repeat (first | exact Drawn0.refl _ | apply Drawn0.step)⟩
  ·rw [if_neg c3] at H
   have c3b0 : decide ((l0.length : Int) ≤ 500) = false := decide_eq_false c3
   have c3b1 : decide (l0.length ≤ 500) = false := decide_eq_false (by omega)
   clear c3
   obtain rfl := Option.some.inj H
   go_enter Try.func29, Try.ntmps29
   go_wp2
   go_ret
   exact ⟨by first | rfl | (simp; done) | (simp [*]; done), by repeat (first | exact Drawn0.refl _ | apply Drawn0.step)⟩
 ·rw [if_neg c2] at H
  have c2b0 : decide (1 ≤ (l0.length : Int)) = false := decide_eq_false c2
  have c2b1 : decide (1 ≤ l0.length) = false := decide_eq_false (by omega)
  clear c2
  obtain rfl := Option.some.inj H
  go_enter Try.func29, Try.ntmps29
  go_wp2
  go_ret
  exact ⟨by first | rfl | (simp; done) | (simp [*]; done), by repeat (first | exact Drawn0.refl _ | apply Drawn0.step)⟩

end Go.Proofs.Ytmjfmhbklifafaa.QFnSteady
