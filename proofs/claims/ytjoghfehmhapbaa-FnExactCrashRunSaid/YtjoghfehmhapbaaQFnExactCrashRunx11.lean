-- Written by a program of this session out of the printer's texts and contracts of its own.
import Derived.Test.YtjoghfehmhapbaaSq
import Derived.Test.YtjoghfehmhapbaaQFnExactCrashRunx0
import Derived.Test.YtjoghfehmhapbaaQFnExactCrashRunx10
namespace Go.Proofs.Ytjoghfehmhapbaa.QFnExactCrashRun
open Go.RowKit Go.Proofs.YtjoghfehmhapbaaW.PrintWords Go.Proofs.YtjoghfehmhapbaaW.PrintLast Go.Proofs.YtjoghfehmhapbaaW.PrintMore Go.Proofs.Ytjoghfehmhapbaa.Sq
attribute [local go_sem] max2_int min2_int max_two min_two max_three min_three max_four min_four   -- for this text's walks alone
set_option linter.unusedVariables false
set_option linter.unusedSimpArgs false
theorem sABelo_11 {b : Nat} {w W : World} (h : Below b w W := by repeat (first | (with_reducible first | exact Aside0.out (by assumption) | apply below_alloc | apply pw_below_drewN | apply below_drew1 | refine below_set ?_ (Aside0.out (by assumption))) | exact Aside0.out (by assumption))) : Below b w W := h

/-! ### laws_szRun: function 34 -/
def laws_szRun.f (k : Nat) (l0_0 : List (S110)) (l0_1 : List Int) (a0_2 : Int) (l0_3 : List (S115)) (a1 : Int) : Option (Int) := (laws_szSuite.f k l0_0 l0_1 a1).bind fun t252 => (if t252 < 0 then (some (-1)) else ((laws_szJobS.f l0_3 t252).bind fun t253 => (if t253 < 0 then (some (-1)) else (some t253))))
theorem laws_szRun.mono : ∀ a0 a1 a2 a3 a4 k, LeO (laws_szRun.f k a0 a1 a2 a3 a4) (laws_szRun.f (k + 1) a0 a1 a2 a3 a4) := by
 intro a0 a1 a2 a3 a4 k
 unfold laws_szRun.f
 repeat' first
   | (with_reducible exact laws_szSuite.mono _ _ _ _)
   | (with_reducible exact LeO.refl _)
   | (with_reducible exact LeO.none _)
   | (with_reducible refine LeO.ite ?_ ?_)
   | (with_reducible refine LeO.bind ?_ (fun _ => ?_))
   | exact laws_szSuite.mono _ _ _ _
   | exact LeO.none _
   | refine LeO.ite ?_ ?_
   | refine LeO.bind ?_ (fun _ => ?_)
set_option maxHeartbeats 8000000 in
set_option maxRecDepth 100000 in
theorem laws_szRun.calls (k : Nat) (A0_0 : Option Addr) (c0_0 : Nat) (l0_0 : List (S110)) (A0_1 : Option Addr) (c0_1 : Nat) (l0_1 : List Int) (a0_2 : Int) (A0_3 : Option Addr) (c0_3 : Nat) (l0_3 : List (S115)) (a1 : Int) (r : Int) (w : World) (hr0_0 : Kd.C k110 w A0_0 l0_0.length l0_0) (hc0_0 : l0_0.length ≤ c0_0) (hr0_1 : Kd.C (Kd.int .i64) w A0_1 l0_1.length l0_1) (hc0_1 : l0_1.length ≤ c0_1) (hr0_3 : Kd.C k115 w A0_3 l0_3.length l0_3) (hc0_3 : l0_3.length ≤ c0_3) (h : laws_szRun.f k l0_0 l0_1 a0_2 l0_3 a1 = some r) :
  Calls Try.prog 34 #[.agg #[.slice A0_0 l0_0.length c0_0, .slice A0_1 l0_1.length c0_1, .int .i64 a0_2, .slice A0_3 l0_3.length c0_3], .int .i64 a1] w fun e w' => e = .returned (.int .i64 r) ∧ Below w.heap.size w w' := by
 have hu64 := Try.underlying64; have hu54 := Try.underlying54; have HR0_0 := Aside0.mk hr0_0; have HC0_0 := Aside0.mk hc0_0; clear hr0_0 hc0_0; have HR0_1 := Aside0.mk hr0_1; have HC0_1 := Aside0.mk hc0_1; clear hr0_1 hc0_1; have HR0_3 := Aside0.mk hr0_3; have HC0_3 := Aside0.mk hc0_3; clear hr0_3 hc0_3
 have HB := Aside0.mk (Below.refl w.heap.size w)
 have H : ((laws_szSuite.f k l0_0 l0_1 a1).bind fun t252 => (if t252 < 0 then (some (-1)) else ((laws_szJobS.f l0_3 t252).bind fun t253 => (if t253 < 0 then (some (-1)) else (some t253))))) = some r := h
 clear h; replace H := Option.bind_eq_some_iff.mp H
 obtain ⟨t252, A30, H⟩ := H
 replace H : (if t252 < 0 then (some (-1)) else ((laws_szJobS.f l0_3 t252).bind fun t253 => (if t253 < 0 then (some (-1)) else (some t253)))) = some r := H
 have A3 := Aside0.mk A30; clear A30
 by_cases c4 : t252 < 0
 ·rw [if_pos c4] at H
  have c4b0 : decide (t252 < 0) = true := decide_eq_true c4
  clear c4
  obtain rfl := Option.some.inj H
  go_enter Try.func34, Try.ntmps34
  go_wp2_with (first | ((with_reducible refine gate_dst (N := 2) rfl ?_); refine box_event ?hg (N := 2) ?hd (cs := #[.slice A0_0 l0_0.length c0_0, .slice A0_1 l0_1.length c0_1, .int .i64 a0_2, .slice A0_3 l0_3.length c0_3]) (t := 64) ?hr ?_; (case hd => rfl); (case hg => rfl); (case hr => first | (go_simp; done) | (go_simp; rfl)); intro gb251 hg w5 hbox hb; have BK251 := Aside0.mk (hbox); have GW251 := gE_ HB hg; have GE251 := gE_ HB hg; replace HB := bS_ HB hb; clear hb hbox hg; have hcz6_0 : w5.cell? ⟨gb251, 0, none⟩ = some (.slice A0_0 l0_0.length c0_0) := (blk_cell BK251.out 0).trans rfl; have hcz6_1 : w5.cell? ⟨gb251, 1, none⟩ = some (.slice A0_1 l0_1.length c0_1) := (blk_cell BK251.out 1).trans rfl; have hcz6_2 : w5.cell? ⟨gb251, 2, none⟩ = some (.int .i64 a0_2) := (blk_cell BK251.out 2).trans rfl; have hcz6_3 : w5.cell? ⟨gb251, 3, none⟩ = some (.slice A0_3 l0_3.length c0_3) := (blk_cell BK251.out 3).trans rfl; have hfz6_0 := blk_frozen BK251.out 0; have hfz6_1 := blk_frozen BK251.out 1; have hfz6_2 := blk_frozen BK251.out 2; have hfz6_3 := blk_frozen BK251.out 3) | ((with_reducible refine gate_callee (f := 27) rfl ?_); refine gL_ (some 8) Try.func27 #[.agg #[.slice A0_0 l0_0.length c0_0, .slice A0_1 l0_1.length c0_1], .int .i64 a1] ?_; (with_reducible refine (laws_szSuite.calls k _ _ l0_0 _ _ l0_1 a1 t252 _ ?side1 ?side2 ?side3 ?side4 A3.out).mono ?_); (case side1 => exact cB_ HR0_0 HB); (case side2 => exact HC0_0.out); (case side3 => exact cB_ HR0_1 HB); (case side4 => exact HC0_1.out); rintro e w7 ⟨rfl, hb⟩; refine ⟨_, rfl, ?_⟩; replace BK251 := bB_ BK251 hb; replace HB := bS_ HB hb; (try clear hb); (try clear hb2); (try clear hk); (try clear hi)))
  go_ret
  exact ⟨by first | rfl | (simp [errW_none, errW_some] <;> rfl) | (simp [*, errW_none, errW_some] <;> rfl), sABelo_11⟩
 ·rw [if_neg c4] at H
  have c4b0 : decide (t252 < 0) = false := decide_eq_false c4
  clear c4; replace H := Option.bind_eq_some_iff.mp H
  obtain ⟨t253, A80, H⟩ := H
  replace H : (if t253 < 0 then (some (-1)) else (some t253)) = some r := H
  have A8 := Aside0.mk A80; clear A80
  by_cases c9 : t253 < 0
  ·rw [if_pos c9] at H
   have c9b0 : decide (t253 < 0) = true := decide_eq_true c9
   clear c9
   obtain rfl := Option.some.inj H
   go_enter Try.func34, Try.ntmps34
   go_wp2_with (first | ((with_reducible refine gate_dst (N := 2) rfl ?_); refine box_event ?hg (N := 2) ?hd (cs := #[.slice A0_0 l0_0.length c0_0, .slice A0_1 l0_1.length c0_1, .int .i64 a0_2, .slice A0_3 l0_3.length c0_3]) (t := 64) ?hr ?_; (case hd => rfl); (case hg => rfl); (case hr => first | (go_simp; done) | (go_simp; rfl)); intro gb251 hg w10 hbox hb; have BK251 := Aside0.mk (hbox); have GW251 := gE_ HB hg; have GE251 := gE_ HB hg; replace HB := bS_ HB hb; clear hb hbox hg; have hcz11_0 : w10.cell? ⟨gb251, 0, none⟩ = some (.slice A0_0 l0_0.length c0_0) := (blk_cell BK251.out 0).trans rfl; have hcz11_1 : w10.cell? ⟨gb251, 1, none⟩ = some (.slice A0_1 l0_1.length c0_1) := (blk_cell BK251.out 1).trans rfl; have hcz11_2 : w10.cell? ⟨gb251, 2, none⟩ = some (.int .i64 a0_2) := (blk_cell BK251.out 2).trans rfl; have hcz11_3 : w10.cell? ⟨gb251, 3, none⟩ = some (.slice A0_3 l0_3.length c0_3) := (blk_cell BK251.out 3).trans rfl; have hfz11_0 := blk_frozen BK251.out 0; have hfz11_1 := blk_frozen BK251.out 1; have hfz11_2 := blk_frozen BK251.out 2; have hfz11_3 := blk_frozen BK251.out 3) | ((with_reducible refine gate_callee (f := 27) rfl ?_); refine gL_ (some 8) Try.func27 #[.agg #[.slice A0_0 l0_0.length c0_0, .slice A0_1 l0_1.length c0_1], .int .i64 a1] ?_; (with_reducible refine (laws_szSuite.calls k _ _ l0_0 _ _ l0_1 a1 t252 _ ?side1 ?side2 ?side3 ?side4 A3.out).mono ?_); (case side1 => exact cB_ HR0_0 HB); (case side2 => exact HC0_0.out); (case side3 => exact cB_ HR0_1 HB); (case side4 => exact HC0_1.out); rintro e w12 ⟨rfl, hb⟩; refine ⟨_, rfl, ?_⟩; replace BK251 := bB_ BK251 hb; replace HB := bS_ HB hb; (try clear hb); (try clear hb2); (try clear hk); (try clear hi); have hcz13_0 : w12.cell? ⟨gb251, 0, none⟩ = some (.slice A0_0 l0_0.length c0_0) := (blk_cell BK251.out 0).trans rfl; have hcz13_1 : w12.cell? ⟨gb251, 1, none⟩ = some (.slice A0_1 l0_1.length c0_1) := (blk_cell BK251.out 1).trans rfl; have hcz13_2 : w12.cell? ⟨gb251, 2, none⟩ = some (.int .i64 a0_2) := (blk_cell BK251.out 2).trans rfl; have hcz13_3 : w12.cell? ⟨gb251, 3, none⟩ = some (.slice A0_3 l0_3.length c0_3) := (blk_cell BK251.out 3).trans rfl; have hfz13_0 := blk_frozen BK251.out 0; have hfz13_1 := blk_frozen BK251.out 1; have hfz13_2 := blk_frozen BK251.out 2; have hfz13_3 := blk_frozen BK251.out 3) | ((with_reducible refine gate_callee (f := 72) rfl ?_); refine gL_ (some 14) Try.func72 #[.slice A0_3 l0_3.length c0_3, .int .i64 t252] ?_; (with_reducible refine (laws_szJobS.calls _ _ l0_3 t252 t253 _ ?side1 ?side2 A8.out).mono ?_); (case side1 => exact cB_ HR0_3 HB); (case side2 => exact HC0_3.out); rintro e w' ⟨rfl, ⟨nd, rfl⟩⟩; refine ⟨_, rfl, ?_⟩))
   go_ret
   exact ⟨by first | rfl | (simp [errW_none, errW_some] <;> rfl) | (simp [*, errW_none, errW_some] <;> rfl), sABelo_11⟩
  ·rw [if_neg c9] at H
   have c9b0 : decide (t253 < 0) = false := decide_eq_false c9
   clear c9
   obtain rfl := Option.some.inj H
   go_enter Try.func34, Try.ntmps34
   go_wp2_with (first | ((with_reducible refine gate_dst (N := 2) rfl ?_); refine box_event ?hg (N := 2) ?hd (cs := #[.slice A0_0 l0_0.length c0_0, .slice A0_1 l0_1.length c0_1, .int .i64 a0_2, .slice A0_3 l0_3.length c0_3]) (t := 64) ?hr ?_; (case hd => rfl); (case hg => rfl); (case hr => first | (go_simp; done) | (go_simp; rfl)); intro gb251 hg w14 hbox hb; have BK251 := Aside0.mk (hbox); have GW251 := gE_ HB hg; have GE251 := gE_ HB hg; replace HB := bS_ HB hb; clear hb hbox hg; have hcz15_0 : w14.cell? ⟨gb251, 0, none⟩ = some (.slice A0_0 l0_0.length c0_0) := (blk_cell BK251.out 0).trans rfl; have hcz15_1 : w14.cell? ⟨gb251, 1, none⟩ = some (.slice A0_1 l0_1.length c0_1) := (blk_cell BK251.out 1).trans rfl; have hcz15_2 : w14.cell? ⟨gb251, 2, none⟩ = some (.int .i64 a0_2) := (blk_cell BK251.out 2).trans rfl; have hcz15_3 : w14.cell? ⟨gb251, 3, none⟩ = some (.slice A0_3 l0_3.length c0_3) := (blk_cell BK251.out 3).trans rfl; have hfz15_0 := blk_frozen BK251.out 0; have hfz15_1 := blk_frozen BK251.out 1; have hfz15_2 := blk_frozen BK251.out 2; have hfz15_3 := blk_frozen BK251.out 3) | ((with_reducible refine gate_callee (f := 27) rfl ?_); refine gL_ (some 8) Try.func27 #[.agg #[.slice A0_0 l0_0.length c0_0, .slice A0_1 l0_1.length c0_1], .int .i64 a1] ?_; (with_reducible refine (laws_szSuite.calls k _ _ l0_0 _ _ l0_1 a1 t252 _ ?side1 ?side2 ?side3 ?side4 A3.out).mono ?_); (case side1 => exact cB_ HR0_0 HB); (case side2 => exact HC0_0.out); (case side3 => exact cB_ HR0_1 HB); (case side4 => exact HC0_1.out); rintro e w16 ⟨rfl, hb⟩; refine ⟨_, rfl, ?_⟩; replace BK251 := bB_ BK251 hb; replace HB := bS_ HB hb; (try clear hb); (try clear hb2); (try clear hk); (try clear hi); have hcz17_0 : w16.cell? ⟨gb251, 0, none⟩ = some (.slice A0_0 l0_0.length c0_0) := (blk_cell BK251.out 0).trans rfl; have hcz17_1 : w16.cell? ⟨gb251, 1, none⟩ = some (.slice A0_1 l0_1.length c0_1) := (blk_cell BK251.out 1).trans rfl; have hcz17_2 : w16.cell? ⟨gb251, 2, none⟩ = some (.int .i64 a0_2) := (blk_cell BK251.out 2).trans rfl; have hcz17_3 : w16.cell? ⟨gb251, 3, none⟩ = some (.slice A0_3 l0_3.length c0_3) := (blk_cell BK251.out 3).trans rfl; have hfz17_0 := blk_frozen BK251.out 0; have hfz17_1 := blk_frozen BK251.out 1; have hfz17_2 := blk_frozen BK251.out 2; have hfz17_3 := blk_frozen BK251.out 3) | ((with_reducible refine gate_callee (f := 72) rfl ?_); refine gL_ (some 14) Try.func72 #[.slice A0_3 l0_3.length c0_3, .int .i64 t252] ?_; (with_reducible refine (laws_szJobS.calls _ _ l0_3 t252 t253 _ ?side1 ?side2 A8.out).mono ?_); (case side1 => exact cB_ HR0_3 HB); (case side2 => exact HC0_3.out); rintro e w' ⟨rfl, ⟨nd, rfl⟩⟩; refine ⟨_, rfl, ?_⟩))
   go_ret
   exact ⟨by first | rfl | (simp [errW_none, errW_some] <;> rfl) | (simp [*, errW_none, errW_some] <;> rfl), sABelo_11⟩

/-! ### laws_toInt64S: function 65 -/
def laws_toInt64S.l0 : Nat → List Int → List Int → Int → Option (List Int)
 | 0, _, _, _ => none
 | k + 1, x0, x3, x4 => if x4 < (x0.length : Int) then (if 0 ≤ x4 then (if x4 < (x3.length : Int) then (laws_toInt64S.l0 k x0 (x3.set (x4 : Int).toNat (rd x0 x4)) (wrap64 (x4 + 1))) else (none)) else (none)) else (some x3)
def laws_toInt64S.f (k : Nat) (l0 : List Int) : Option (List Int) := if 0 ≤ (l0.length : Int) then (if ((l0.length : Int) : Int).toNat ≤ 35184372088832 then (laws_toInt64S.l0 k l0 (List.replicate ((l0.length : Int) : Int).toNat 0) 0) else (none)) else (none)
theorem laws_toInt64S.mono_l : ∀ k, (∀ y0 y1 y2, LeO (laws_toInt64S.l0 k y0 y1 y2) (laws_toInt64S.l0 (k + 1) y0 y1 y2))
 | 0 => fun _ _ _ r h => by simp [laws_toInt64S.l0] at h
 | k + 1 => by
  have ih0 := laws_toInt64S.mono_l k
  ·intro y0 y1 y2
   unfold laws_toInt64S.l0
   repeat' first
   | (with_reducible exact ih0 _ _ _)
   | (with_reducible exact LeO.refl _)
   | (with_reducible exact LeO.none _)
   | (with_reducible refine LeO.ite ?_ ?_)
   | (with_reducible refine LeO.bind ?_ (fun _ => ?_))
   | exact ih0 _ _ _
   | exact LeO.none _
   | refine LeO.ite ?_ ?_
   | refine LeO.bind ?_ (fun _ => ?_)
theorem laws_toInt64S.mono : ∀ a0 k, LeO (laws_toInt64S.f k a0) (laws_toInt64S.f (k + 1) a0) := by
 intro a0 k
 have ih0 := laws_toInt64S.mono_l k
 unfold laws_toInt64S.f
 repeat' first
   | (with_reducible exact ih0 _ _ _)
   | (with_reducible exact LeO.refl _)
   | (with_reducible exact LeO.none _)
   | (with_reducible refine LeO.ite ?_ ?_)
   | (with_reducible refine LeO.bind ?_ (fun _ => ?_))
   | exact ih0 _ _ _
   | exact LeO.none _
   | refine LeO.ite ?_ ?_
   | refine LeO.bind ?_ (fun _ => ?_)
set_option maxHeartbeats 8000000 in
set_option maxRecDepth 100000 in
theorem laws_toInt64S.calls (k : Nat) (A0 : Option Addr) (c0 : Nat) (l0 : List Int) (r : List Int) (w : World) (hr0 : Kd.C (Kd.int .i64) w A0 l0.length l0) (hc0 : l0.length ≤ c0) (h : laws_toInt64S.f k l0 = some r) :
  Calls Try.prog 65 #[.slice A0 l0.length c0] w fun e w' => ∃ v0_ : Value, e = .returned (v0_) ∧ Kd.R (Kd.int .i64) 2 w' w.heap.size (fun _ => True) v0_ r ∧ Below w.heap.size w w' := by
 have HR0 := Aside0.mk hr0; have HC0 := Aside0.mk hc0; clear hr0 hc0
 have HB := Aside0.mk (Below.refl w.heap.size w)
 have H : (if 0 ≤ (l0.length : Int) then (if ((l0.length : Int) : Int).toNat ≤ 35184372088832 then (laws_toInt64S.l0 k l0 (List.replicate ((l0.length : Int) : Int).toNat 0) 0) else (none)) else (none)) = some r := h
 clear h
 obtain ⟨c2, H⟩ := ifS_ H
 have c2b0 := eq_true c2
 have c2b1 : decide (0 ≤ (l0.length : Int)) = true := decide_eq_true c2
 clear c2
 obtain ⟨c3, H⟩ := ifS_ H
 have c3b0 := eq_true c3
 have c3b1 : decide (((l0.length : Int) : Int).toNat ≤ 35184372088832) = true := decide_eq_true c3
 clear c3
 obtain ⟨y254, hy254⟩ : ∃ y_ : List Int, y_ = (List.replicate ((l0.length : Int) : Int).toNat 0) := ⟨_, rfl⟩
 replace H : (laws_toInt64S.l0 k l0 y254 0) = some r := by first | (rw [hy254]; with_reducible exact H) | (have H2_ := (Option.bind_some _ _).symm.trans H; rw [hy254]; with_reducible exact H2_) | (have H2_ := (Option.bind_some _ _).symm.trans H; with_reducible exact H2_) | with_reducible exact H | (rw [hy254]; exact H) | exact H
 have Ny254 := Aside0.mk hy254; clear hy254; have H' := Aside0.mk H; clear H
 go_enter Try.func65, Try.ntmps65
 go_wp2_with (first | ((with_reducible refine gate_dst (N := 7) rfl ?_); refine Kd.R_make (Kd.int .i64) _ 2 rfl (N := 7) rfl 25 _ _ rfl (l0.length : Int) rfl rfl Try.underlying25 (.int .i64 0) 8 info2 rfl (by decide) (by omega) 0 (ok := fun _ => True) (okp := fun _ => True) rfl (fun _ hk => hk) trivial (of_decide_eq_true (by first | (with_reducible assumption) | assumption)) (Nat.le_trans (Nat.mul_le_mul_right _ (of_decide_eq_true (by first | (with_reducible assumption) | assumption) : (l0.length : Int).toNat ≤ 35184372088832)) (by omega)) (Below.refl _ _) (Nat.le_refl _) ?_; intro v255 w4 ho5 hb hg_ hnew_; clear hg_ hnew_; (first | rw [← Ny254.out] at ho5 | (simp only [Int.reduceToNat] at ho5; rw [← Ny254.out] at ho5)); have HO256 := rL_ ho5 HB; replace HB := bS_ HB hb; clear hb ho5))
 go_loopg [4] k (fun kq v4 w' => ∃ (x3_1 : List Int) (x4_1 : Int), v4 = .int .i64 x4_1 ∧ Aside0 (laws_toInt64S.l0 kq l0 x3_1 x4_1 = some r) ∧ Aside0 (kq ≤ k) ∧ Aside0 (Kd.R (Kd.int .i64) 2 w' w.heap.size (fun _ => True) v255 x3_1) ∧ Aside0 (Below w.heap.size w w'))
 case atStart => exact ⟨(y254), (0), (by first | rfl | (simp; done) | (simp [*]; done)), H', ⟨Nat.le_refl _⟩, ⟨by (with_reducible repeat (first | apply Kd.R_alloc | apply Kd.R_drewN | apply Kd.R_drew)); exact HO256.out⟩, ⟨sABelo_11⟩⟩
 case round =>
  clear H'; (try clear c2); (try clear c2b0); (try clear c2b1); (try clear p2); (try clear c3); (try clear c3b0); (try clear c3b1)
  obtain ⟨x3_1, x4_1, rfl, HA, HK1, HO_3, HB⟩ := hrel
  cases gk with
  | zero => exact absurd HA.out (by simp [laws_toInt64S.l0])
  | succ k1 =>
   have H := HA.out; clear HA
   simp only [laws_toInt64S.l0] at H
   by_cases c6 : x4_1 < (l0.length : Int)
   ·rw [if_pos c6] at H
    have c6b0 : decide (x4_1 < (l0.length : Int)) = true := decide_eq_true c6
    clear c6
    obtain ⟨c7, H⟩ := ifS_ H
    have c7b0 : decide (0 ≤ x4_1) = true := decide_eq_true c7
    clear c7
    obtain ⟨c8, H⟩ := ifS_ H
    have c8b0 : decide (x4_1 < (x3_1.length : Int)) = true := decide_eq_true c8
    clear c8
    obtain ⟨y258, hy258⟩ : ∃ y_ : List Int, y_ = (x3_1.set (x4_1 : Int).toNat (rd l0 x4_1)) := ⟨_, rfl⟩
    replace H : (laws_toInt64S.l0 k1 l0 y258 (wrap64 (x4_1 + 1))) = some r := by first | (rw [hy258]; with_reducible exact H) | (have H2_ := (Option.bind_some _ _).symm.trans H; rw [hy258]; with_reducible exact H2_) | (have H2_ := (Option.bind_some _ _).symm.trans H; with_reducible exact H2_) | with_reducible exact H | (rw [hy258]; exact H) | exact H
    have Ny258 := Aside0.mk hy258; clear hy258; have H' := Aside0.mk H; clear H
    have p257 : 0 ≤ (x4_1 : Int) := of_decide_eq_true (by first | (with_reducible assumption) | assumption)
    have q257 : x4_1 < (l0.length : Int) := of_decide_eq_true (by first | (with_reducible assumption) | assumption)
    obtain ⟨ad257, e257, hx257_0⟩ := Kd.at_int HR0.out x4_1 p257 q257
    cases e257
    replace hx257_0 := (HB.out.cell (World.block_lt_of_cell? w _ hx257_0)).trans hx257_0
    replace p257 := eq_true p257; replace q257 := eq_true q257
    have p9 : 0 ≤ (x4_1 : Int) := of_decide_eq_true (by first | (with_reducible assumption) | assumption)
    have q9 : (x4_1 : Int) < ((x3_1.length : Int) : Int) := of_decide_eq_true (by first | (with_reducible assumption) | assumption)
    obtain ⟨go9, co9, eo9, gb9, gl9, cl9, HG9⟩ := Kd.R_form HO_3.out (by omega)
    (first | cases eo9 | (injection eo9 with ea_ en_ ec_; (first | subst ea_ | (injection ea_ with ea_; subst ea_)); subst ec_; clear en_))
    have GB9 := Aside0.mk gb9; have GG9 := Aside0.mk HG9; clear gb9 gl9 HG9
    obtain ⟨hx9_0, hf9_0⟩ := Kd.R_celln 0 HO_3.out (x4_1 : Int) p9 q9
    replace p9 := eq_true p9; replace q9 := eq_true q9
    have HP10 := Kd.R_putg HO_3.out (x4_1 : Int) (rd l0 x4_1)
    go_wp2_with (first | ((with_reducible refine gate_store (t := 2) (p := 20) rfl ?_); refine store_event (t := 2) (p := 20) (v := ?vo_w11) (w1 := (wr.setCell ⟨go9, (x4_1 : Int).toNat, none⟩ (.int .i64 (rd l0 x4_1)))) ?hg ?ho ?hn ?hr ?_; (case ho => rfl); (case hg => rfl); (case hn => rfl); (case hr => first | (go_simp; done) | (go_simp; rfl)); intro w11 hw; have hg : wr.grownBy w11 (some go9) := (by rw [hw]; exact HP10.2); have hp_ : Kd.R (Kd.int .i64) 2 w11 w.heap.size (fun _ => True) (.slice (some ⟨go9, 0, none⟩) x3_1.length co9) y258 := (by rw [hw, Ny258.out]; exact HP10.1); clear HP10; replace HO_3 := Aside0.mk (hp_); replace HB := Aside0.mk ((by rw [hw]; exact below_set (HB.out) GB9.out : Below w.heap.size w w11)); clear hg hw hp_))
    go_roundg k1
    case measure => have := HK1.out; omega
    case rel => exact ⟨(y258), (wrap64 (x4_1 + 1)), (by first | rfl | (simp; done) | (simp [*]; done)), H', ⟨by have := HK1.out; omega⟩, ⟨by (with_reducible repeat (first | apply Kd.R_alloc | apply Kd.R_drewN | apply Kd.R_drew)); exact HO_3.out⟩, ⟨sABelo_11⟩⟩
   ·rw [if_neg c6] at H
    have c6b0 : decide (x4_1 < (l0.length : Int)) = false := decide_eq_false c6
    clear c6
    obtain rfl := Option.some.inj H
    go_wp2
    go_ret
    exact ⟨_, by first | rfl | (simp [errW_none, errW_some] <;> rfl) | (simp [*, errW_none, errW_some] <;> rfl), by (with_reducible repeat (first | apply Kd.R_alloc | apply Kd.R_drewN | apply Kd.R_drew)); exact HO_3.out, sABelo_11⟩

/-! ### laws_toTask: function 86 -/
def laws_toTask.f (k : Nat) (l0_0 : List Int) (a0_1 : Int) (a0_2 : Int) (a0_3 : Int) : Option (List Int × Int × Int × Int) := (laws_toInt64S.f k l0_0).bind fun t262 => (some (t262, a0_1, a0_2, a0_3))
theorem laws_toTask.mono : ∀ a0 a1 a2 a3 k, LeO (laws_toTask.f k a0 a1 a2 a3) (laws_toTask.f (k + 1) a0 a1 a2 a3) := by
 intro a0 a1 a2 a3 k
 unfold laws_toTask.f
 repeat' first
   | (with_reducible exact laws_toInt64S.mono _ _)
   | (with_reducible exact LeO.refl _)
   | (with_reducible exact LeO.none _)
   | (with_reducible refine LeO.ite ?_ ?_)
   | (with_reducible refine LeO.bind ?_ (fun _ => ?_))
   | exact laws_toInt64S.mono _ _
   | exact LeO.none _
   | refine LeO.ite ?_ ?_
   | refine LeO.bind ?_ (fun _ => ?_)
set_option maxHeartbeats 8000000 in
set_option maxRecDepth 100000 in
theorem laws_toTask.calls (k : Nat) (A0_0 : Option Addr) (c0_0 : Nat) (l0_0 : List Int) (a0_1 : Int) (a0_2 : Int) (a0_3 : Int) (r1 : List Int) (r2 : Int) (r3 : Int) (r4 : Int) (w : World) (hr0_0 : Kd.C (Kd.int .i64) w A0_0 l0_0.length l0_0) (hc0_0 : l0_0.length ≤ c0_0) (h : laws_toTask.f k l0_0 a0_1 a0_2 a0_3 = some (r1, r2, r3, r4)) :
  Calls Try.prog 86 #[.agg #[.slice A0_0 l0_0.length c0_0, .int .i64 a0_1, .int .i64 a0_2, .int .i64 a0_3]] w fun e w' => ∃ v0_ : Value, e = .returned (.agg #[v0_, .int .i64 r2, .int .i64 r3, .int .i64 r4]) ∧ Kd.R (Kd.int .i64) 2 w' w.heap.size (fun _ => True) v0_ r1 ∧ Below w.heap.size w w' := by
 have hu110 := Try.underlying110; have hu39 := Try.underlying39; have HR0_0 := Aside0.mk hr0_0; have HC0_0 := Aside0.mk hc0_0; clear hr0_0 hc0_0
 have HB := Aside0.mk (Below.refl w.heap.size w)
 have H : ((laws_toInt64S.f k l0_0).bind fun t262 => (some (t262, a0_1, a0_2, a0_3))) = some (r1, r2, r3, r4) := h
 clear h; replace H := Option.bind_eq_some_iff.mp H
 obtain ⟨t262, A20, H⟩ := H
 replace H : (some (t262, a0_1, a0_2, a0_3)) = some (r1, r2, r3, r4) := H
 have A2 := Aside0.mk A20; clear A20
 simp only [Option.some.injEq, Prod.mk.injEq] at H
 obtain ⟨rfl, rfl, rfl, rfl⟩ := H
 go_enter Try.func86, Try.ntmps86
 go_wp2_with (first | ((with_reducible refine gate_dst (N := 1) rfl ?_); refine box_event ?hg (N := 1) ?hd (cs := #[.slice A0_0 l0_0.length c0_0, .int .i64 a0_1, .int .i64 a0_2, .int .i64 a0_3]) (t := 110) ?hr ?_; (case hd => rfl); (case hg => rfl); (case hr => first | (go_simp; done) | (go_simp; rfl)); intro gb259 hg w3 hbox hb; have BK259 := Aside0.mk (hbox); have GW259 := gE_ HB hg; have GE259 := gE_ HB hg; replace HB := bS_ HB hb; clear hb hbox hg) | ((with_reducible refine gate_dst (N := 2) rfl ?_); refine box_event ?hg (N := 2) ?hd (cs := #[.slice none 0 0, .int .i64 0, .int .i64 0, .int .i64 0]) (t := 39) ?hr ?_; (case hd => rfl); (case hg => rfl); (case hr => first | (go_simp; done) | (go_simp; rfl)); intro gb260 hg w4 hbox hb; have BK260 := Aside0.mk (hbox); have GW260 := gE_ HB hg; have GE260 := gE_ HB hg; replace HB := bS_ HB hb; have NB259_260 := nL_ BK259 hg; have NB260_259 := nG_ BK259 hg; replace BK259 := bB_ BK259 hb; clear hb hbox hg) | ((with_reducible refine gate_dst (N := 3) rfl ?_); refine box_event ?hg (N := 3) ?hd (cs := #[.slice none 0 0, .int .i64 0, .int .i64 0, .int .i64 0]) (t := 39) ?hr ?_; (case hd => rfl); (case hg => rfl); (case hr => first | (go_simp; done) | (go_simp; rfl)); intro gb261 hg w5 hbox hb; have BK261 := Aside0.mk (hbox); have GW261 := gE_ HB hg; have GE261 := gE_ HB hg; replace HB := bS_ HB hb; have NB259_261 := nL_ BK259 hg; have NB261_259 := nG_ BK259 hg; replace BK259 := bB_ BK259 hb; have NB260_261 := nL_ BK260 hg; have NB261_260 := nG_ BK260 hg; replace BK260 := bB_ BK260 hb; clear hb hbox hg; have hnb6 := NB259_260.out; have hnc6 := NB260_259.out; have hnb7 := NB259_261.out; have hnc7 := NB261_259.out; have hcz8_0 : w5.cell? ⟨gb259, 0, none⟩ = some (.slice A0_0 l0_0.length c0_0) := (blk_cell BK259.out 0).trans rfl; have hcz8_1 : w5.cell? ⟨gb259, 1, none⟩ = some (.int .i64 a0_1) := (blk_cell BK259.out 1).trans rfl; have hcz8_2 : w5.cell? ⟨gb259, 2, none⟩ = some (.int .i64 a0_2) := (blk_cell BK259.out 2).trans rfl; have hcz8_3 : w5.cell? ⟨gb259, 3, none⟩ = some (.int .i64 a0_3) := (blk_cell BK259.out 3).trans rfl; have hfz8_0 := blk_frozen BK259.out 0; have hfz8_1 := blk_frozen BK259.out 1; have hfz8_2 := blk_frozen BK259.out 2; have hfz8_3 := blk_frozen BK259.out 3) | ((with_reducible refine gate_callee (f := 65) rfl ?_); refine gL_ (some 6) Try.func65 #[.slice A0_0 l0_0.length c0_0] ?_; (with_reducible refine (laws_toInt64S.calls k _ _ l0_0 t262 _ ?side1 ?side2 A2.out).mono ?_); (case side1 => exact cB_ HR0_0 HB); (case side2 => exact HC0_0.out); rintro e w9 ⟨v263, rfl, ho0, hb⟩; refine ⟨_, rfl, ?_⟩; have HO264 := rL_ ho0 HB; replace BK259 := bB_ BK259 hb; replace BK260 := bB_ BK260 hb; replace BK261 := bB_ BK261 hb; replace HB := bS_ HB hb; (try clear hb); (try clear hb2); (try clear hk); (try clear hi); (try clear ho0); obtain ⟨Ao10, co10, eo10⟩ := Kd.R_slice HO264.out; subst eo10; have hnb11 := NB261_260.out; have hnc11 := NB260_261.out; have hcz12_0 : w9.cell? ⟨gb261, 0, none⟩ = some (.slice none 0 0) := (blk_cell BK261.out 0).trans rfl; have hcz12_1 : w9.cell? ⟨gb261, 1, none⟩ = some (.int .i64 0) := (blk_cell BK261.out 1).trans rfl; have hcz12_2 : w9.cell? ⟨gb261, 2, none⟩ = some (.int .i64 0) := (blk_cell BK261.out 2).trans rfl; have hcz12_3 : w9.cell? ⟨gb261, 3, none⟩ = some (.int .i64 0) := (blk_cell BK261.out 3).trans rfl; have hfz12_0 := blk_frozen BK261.out 0; have hfz12_1 := blk_frozen BK261.out 1; have hfz12_2 := blk_frozen BK261.out 2; have hfz12_3 := blk_frozen BK261.out 3; have hcz13_0 : w9.cell? ⟨gb259, 0, none⟩ = some (.slice A0_0 l0_0.length c0_0) := (blk_cell BK259.out 0).trans rfl; have hcz13_1 : w9.cell? ⟨gb259, 1, none⟩ = some (.int .i64 a0_1) := (blk_cell BK259.out 1).trans rfl; have hcz13_2 : w9.cell? ⟨gb259, 2, none⟩ = some (.int .i64 a0_2) := (blk_cell BK259.out 2).trans rfl; have hcz13_3 : w9.cell? ⟨gb259, 3, none⟩ = some (.int .i64 a0_3) := (blk_cell BK259.out 3).trans rfl; have hfz13_0 := blk_frozen BK259.out 0; have hfz13_1 := blk_frozen BK259.out 1; have hfz13_2 := blk_frozen BK259.out 2; have hfz13_3 := blk_frozen BK259.out 3; have hcz14_0 : w9.cell? ⟨gb260, 0, none⟩ = some (.slice none 0 0) := (blk_cell BK260.out 0).trans rfl; have hcz14_1 : w9.cell? ⟨gb260, 1, none⟩ = some (.int .i64 0) := (blk_cell BK260.out 1).trans rfl; have hcz14_2 : w9.cell? ⟨gb260, 2, none⟩ = some (.int .i64 0) := (blk_cell BK260.out 2).trans rfl; have hcz14_3 : w9.cell? ⟨gb260, 3, none⟩ = some (.int .i64 0) := (blk_cell BK260.out 3).trans rfl; have hfz14_0 := blk_frozen BK260.out 0; have hfz14_1 := blk_frozen BK260.out 1; have hfz14_2 := blk_frozen BK260.out 2; have hfz14_3 := blk_frozen BK260.out 3))
 refine bodyPost_ret (results_cell_row rfl _ _ gb260 39 #[.slice Ao10 t262.length co10, .int .i64 a0_1, .int .i64 a0_2, .int .i64 a0_3] (0, 0) _ rfl (by (with_reducible repeat (first | refine blk_drewN ?_ _ | refine blk_drew ?_ | refine blk_alloc ?_ _)); refine blk_put (cs := #[.slice Ao10 t262.length co10, .int .i64 a0_1, .int .i64 a0_2, .int .i64 0]) ?_ 3 _ rfl; (with_reducible repeat (first | refine blk_drewN ?_ _ | refine blk_drew ?_ | refine blk_alloc ?_ _)); refine blk_put (cs := #[.slice Ao10 t262.length co10, .int .i64 a0_1, .int .i64 0, .int .i64 0]) ?_ 2 _ rfl; (with_reducible repeat (first | refine blk_drewN ?_ _ | refine blk_drew ?_ | refine blk_alloc ?_ _)); refine blk_put (cs := #[.slice Ao10 t262.length co10, .int .i64 0, .int .i64 0, .int .i64 0]) ?_ 1 _ rfl; (with_reducible repeat (first | refine blk_drewN ?_ _ | refine blk_drew ?_ | refine blk_alloc ?_ _)); refine blk_put (cs := #[.slice none 0 0, .int .i64 0, .int .i64 0, .int .i64 0]) ?_ 0 _ rfl; (with_reducible repeat (first | refine blk_drewN ?_ _ | refine blk_drew ?_ | refine blk_alloc ?_ _)); refine blk_far ?_ NB260_261.out _; (with_reducible repeat (first | refine blk_drewN ?_ _ | refine blk_drew ?_ | refine blk_alloc ?_ _)); refine blk_far ?_ NB260_261.out _; (with_reducible repeat (first | refine blk_drewN ?_ _ | refine blk_drew ?_ | refine blk_alloc ?_ _)); refine blk_far ?_ NB260_261.out _; (with_reducible repeat (first | refine blk_drewN ?_ _ | refine blk_drew ?_ | refine blk_alloc ?_ _)); refine blk_far ?_ NB260_261.out _; exact bT_ BK260) Try.underlying39 rfl (by kernel_rfl)) rfl ?_
 exact ⟨_, by first | rfl | (simp [errW_none, errW_some] <;> rfl) | (simp [*, errW_none, errW_some] <;> rfl), by (with_reducible repeat (first | apply Kd.R_alloc | apply Kd.R_drewN | apply Kd.R_drew)); exact Kd.R_mono (Kd.R_far (p := ⟨gb260, 3, none⟩) (Kd.R_far (p := ⟨gb260, 2, none⟩) (Kd.R_far (p := ⟨gb260, 1, none⟩) (Kd.R_far (p := ⟨gb260, 0, none⟩) (Kd.R_far (p := ⟨gb261, 3, none⟩) (Kd.R_far (p := ⟨gb261, 2, none⟩) (Kd.R_far (p := ⟨gb261, 1, none⟩) (Kd.R_far (p := ⟨gb261, 0, none⟩) (Kd.R_types (Kd.R_types HO264.out BK261.out (by decide)) BK260.out (by decide)) (fun _ hk => hk.1.2) (.slice Ao10 t262.length co10)) (fun _ hk => hk.1.2) (.int .i64 a0_1)) (fun _ hk => hk.1.2) (.int .i64 a0_2)) (fun _ hk => hk.1.2) (.int .i64 a0_3)) (fun _ hk => hk.2) (.slice Ao10 t262.length co10)) (fun _ hk => hk.2) (.int .i64 a0_1)) (fun _ hk => hk.2) (.int .i64 a0_2)) (fun _ hk => hk.2) (.int .i64 a0_3)) (fun _ hk => trivial), sABelo_11⟩

/-! ### laws_toTaskS: function 64 -/
def laws_toTaskS.l0 : Nat → List (S110) → List (S39) → Int → Option ((List (S39)))
 | 0, _, _, _ => none
 | k + 1, x0, x3, x4 => if x4 < (x0.length : Int) then (if 0 ≤ x4 then ((laws_toTask.f k ((rd_T110 x0 x4).f0) ((rd_T110 x0 x4).f1) ((rd_T110 x0 x4).f2) ((rd_T110 x0 x4).f3)).bind fun bt269 => (if x4 < (x3.length : Int) then (laws_toTaskS.l0 k x0 (x3.set (x4 : Int).toNat (⟨bt269.1, bt269.2.1, bt269.2.2.1, bt269.2.2.2⟩ : S39)) (wrap64 (x4 + 1))) else (none))) else (none)) else (some x3)
def laws_toTaskS.f (k : Nat) (l0 : List (S110)) : Option ((List (S39))) := if 0 ≤ (l0.length : Int) then (if ((l0.length : Int) : Int).toNat ≤ 5864062014805 then (laws_toTaskS.l0 k l0 (List.replicate ((l0.length : Int) : Int).toNat z39) 0) else (none)) else (none)
theorem laws_toTaskS.mono_l : ∀ k, (∀ y0 y1 y2, LeO (laws_toTaskS.l0 k y0 y1 y2) (laws_toTaskS.l0 (k + 1) y0 y1 y2))
 | 0 => fun _ _ _ r h => by simp [laws_toTaskS.l0] at h
 | k + 1 => by
  have ih0 := laws_toTaskS.mono_l k
  ·intro y0 y1 y2
   unfold laws_toTaskS.l0
   repeat' first
   | (with_reducible exact ih0 _ _ _)
   | (with_reducible exact laws_toTask.mono _ _ _ _ _)
   | (with_reducible exact LeO.refl _)
   | (with_reducible exact LeO.none _)
   | (with_reducible refine LeO.ite ?_ ?_)
   | (with_reducible refine LeO.bind ?_ (fun _ => ?_))
   | exact ih0 _ _ _
   | exact laws_toTask.mono _ _ _ _ _
   | exact LeO.none _
   | refine LeO.ite ?_ ?_
   | refine LeO.bind ?_ (fun _ => ?_)
theorem laws_toTaskS.mono : ∀ a0 k, LeO (laws_toTaskS.f k a0) (laws_toTaskS.f (k + 1) a0) := by
 intro a0 k
 have ih0 := laws_toTaskS.mono_l k
 unfold laws_toTaskS.f
 repeat' first
   | (with_reducible exact ih0 _ _ _)
   | (with_reducible exact laws_toTask.mono _ _ _ _ _)
   | (with_reducible exact LeO.refl _)
   | (with_reducible exact LeO.none _)
   | (with_reducible refine LeO.ite ?_ ?_)
   | (with_reducible refine LeO.bind ?_ (fun _ => ?_))
   | exact ih0 _ _ _
   | exact laws_toTask.mono _ _ _ _ _
   | exact LeO.none _
   | refine LeO.ite ?_ ?_
   | refine LeO.bind ?_ (fun _ => ?_)
set_option maxHeartbeats 8000000 in
set_option maxRecDepth 100000 in
theorem laws_toTaskS.calls (k : Nat) (A0 : Option Addr) (c0 : Nat) (l0 : List (S110)) (r : List (S39)) (w : World) (hr0 : Kd.C k110 w A0 l0.length l0) (hc0 : l0.length ≤ c0) (h : laws_toTaskS.f k l0 = some r) :
  Calls Try.prog 64 #[.slice A0 l0.length c0] w fun e w' => ∃ v0_ : Value, e = .returned (v0_) ∧ Kd.S k39 39 w' w.heap.size (fun _ => True) v0_ r ∧ Below w.heap.size w w' := by
 have hu110 := Try.underlying110; have hu39 := Try.underlying39; have HR0 := Aside0.mk hr0; have HC0 := Aside0.mk hc0; clear hr0 hc0
 have HB := Aside0.mk (Below.refl w.heap.size w)
 have H : (if 0 ≤ (l0.length : Int) then (if ((l0.length : Int) : Int).toNat ≤ 5864062014805 then (laws_toTaskS.l0 k l0 (List.replicate ((l0.length : Int) : Int).toNat z39) 0) else (none)) else (none)) = some r := h
 clear h
 obtain ⟨c2, H⟩ := ifS_ H
 have c2b0 := eq_true c2
 have c2b1 : decide (0 ≤ (l0.length : Int)) = true := decide_eq_true c2
 clear c2
 obtain ⟨c3, H⟩ := ifS_ H
 have c3b0 := eq_true c3
 have c3b1 : decide (((l0.length : Int) : Int).toNat ≤ 5864062014805) = true := decide_eq_true c3
 clear c3
 obtain ⟨y265, hy265⟩ : ∃ y_ : List (S39), y_ = (List.replicate ((l0.length : Int) : Int).toNat z39) := ⟨_, rfl⟩
 replace H : (laws_toTaskS.l0 k l0 y265 0) = some r := by first | (rw [hy265]; with_reducible exact H) | (have H2_ := (Option.bind_some _ _).symm.trans H; rw [hy265]; with_reducible exact H2_) | (have H2_ := (Option.bind_some _ _).symm.trans H; with_reducible exact H2_) | with_reducible exact H | (rw [hy265]; exact H) | exact H
 have Ny265 := Aside0.mk hy265; clear hy265; have H' := Aside0.mk H; clear H
 go_enter Try.func64, Try.ntmps64
 go_wp2_with (first | ((with_reducible refine gate_dst (N := 7) rfl ?_); refine Kd.S_make k39 _ 39 rfl (N := 7) rfl 24 _ _ rfl (l0.length : Int) rfl rfl Try.underlying24 (.agg #[(.slice none 0 0), (.int .i64 0), (.int .i64 0), (.int .i64 0)]) 48 info39 rfl (by decide) (by omega) z39 (ok := fun _ => True) (okp := fun _ => True) (k39_mkM _ _ _ z39 (Kd.R_nil _ _ _ _ _)) (fun _ hk => hk) trivial (of_decide_eq_true (by first | (with_reducible assumption) | assumption)) (Nat.le_trans (Nat.mul_le_mul_right _ (of_decide_eq_true (by first | (with_reducible assumption) | assumption) : (l0.length : Int).toNat ≤ 5864062014805)) (by omega)) (Below.refl _ _) (Nat.le_refl _) ?_; intro v266 w4 ho5 hb hg_ hnew_; clear hg_ hnew_; (first | rw [← Ny265.out] at ho5 | (simp only [Int.reduceToNat] at ho5; rw [← Ny265.out] at ho5)); have HO267 := Aside0.mk (Kd.S_lower ho5 (below_size sABelo_11)); replace HB := bS_ HB hb; clear hb ho5))
 go_loopg [4] k (fun kq v4 w' => ∃ (x3_1 : List (S39)) (x4_1 : Int), v4 = .int .i64 x4_1 ∧ Aside0 (laws_toTaskS.l0 kq l0 x3_1 x4_1 = some r) ∧ Aside0 (kq ≤ k) ∧ Aside0 (Kd.S k39 39 w' w.heap.size (fun _ => True) v266 x3_1) ∧ Aside0 (Below w.heap.size w w'))
 case atStart => exact ⟨(y265), (0), (by first | rfl | (simp; done) | (simp [*]; done)), H', ⟨Nat.le_refl _⟩, ⟨by (with_reducible repeat (first | apply Kd.S_alloc | apply Kd.S_drewN | apply Kd.S_drew)); exact HO267.out⟩, ⟨sABelo_11⟩⟩
 case round =>
  clear H'; (try clear c2); (try clear c2b0); (try clear c2b1); (try clear p2); (try clear c3); (try clear c3b0); (try clear c3b1)
  obtain ⟨x3_1, x4_1, rfl, HA, HK1, HO_3, HB⟩ := hrel
  cases gk with
  | zero => exact absurd HA.out (by simp [laws_toTaskS.l0])
  | succ k1 =>
   have H := HA.out; clear HA
   simp only [laws_toTaskS.l0] at H
   by_cases c6 : x4_1 < (l0.length : Int)
   ·rw [if_pos c6] at H
    have c6b0 : decide (x4_1 < (l0.length : Int)) = true := decide_eq_true c6
    clear c6
    obtain ⟨c7, H⟩ := ifS_ H
    have c7b0 : decide (0 ≤ x4_1) = true := decide_eq_true c7
    clear c7; replace H := Option.bind_eq_some_iff.mp H
    obtain ⟨⟨t269, t272, t273, t274⟩, A80, H⟩ := H
    replace H : (if x4_1 < (x3_1.length : Int) then (laws_toTaskS.l0 k1 l0 (x3_1.set (x4_1 : Int).toNat (⟨t269, t272, t273, t274⟩ : S39)) (wrap64 (x4_1 + 1))) else (none)) = some r := H
    have A8 := Aside0.mk A80; clear A80
    obtain ⟨c9, H⟩ := ifS_ H
    have c9b0 : decide (x4_1 < (x3_1.length : Int)) = true := decide_eq_true c9
    clear c9
    obtain ⟨y275, hy275⟩ : ∃ y_ : List (S39), y_ = (x3_1.set (x4_1 : Int).toNat (⟨t269, t272, t273, t274⟩ : S39)) := ⟨_, rfl⟩
    replace H : (laws_toTaskS.l0 k1 l0 y275 (wrap64 (x4_1 + 1))) = some r := by first | (rw [hy275]; with_reducible exact H) | (have H2_ := (Option.bind_some _ _).symm.trans H; rw [hy275]; with_reducible exact H2_) | (have H2_ := (Option.bind_some _ _).symm.trans H; with_reducible exact H2_) | with_reducible exact H | (rw [hy275]; exact H) | exact H
    have Ny275 := Aside0.mk hy275; clear hy275; have H' := Aside0.mk H; clear H
    have p268 : 0 ≤ (x4_1 : Int) := of_decide_eq_true (by first | (with_reducible assumption) | assumption)
    have q268 : x4_1 < (l0.length : Int) := of_decide_eq_true (by first | (with_reducible assumption) | assumption)
    obtain ⟨ad268, A268_0, c268_0, e268, hx268_0, hx268_1, hx268_2, hx268_3, hl268_0, hi268_0⟩ := at_T110 HR0.out x4_1 p268 q268
    cases e268
    replace hx268_0 := (HB.out.cell (World.block_lt_of_cell? w _ hx268_0)).trans hx268_0
    replace hx268_1 := (HB.out.cell (World.block_lt_of_cell? w _ hx268_1)).trans hx268_1
    replace hx268_2 := (HB.out.cell (World.block_lt_of_cell? w _ hx268_2)).trans hx268_2
    replace hx268_3 := (HB.out.cell (World.block_lt_of_cell? w _ hx268_3)).trans hx268_3
    have HR268_0 := Aside0.mk hi268_0; have HC268_0 := Aside0.mk hl268_0; clear hi268_0 hl268_0; replace p268 := eq_true p268; replace q268 := eq_true q268
    go_wp2_with (first | ((with_reducible refine gate_callee (f := 86) rfl ?_); refine gL_ (some 20) Try.func86 #[.agg #[.slice A268_0 ((rd_T110 l0 x4_1).f0).length c268_0, .int .i64 ((rd_T110 l0 x4_1).f1), .int .i64 ((rd_T110 l0 x4_1).f2), .int .i64 ((rd_T110 l0 x4_1).f3)]] ?_; (with_reducible refine (laws_toTask.calls k1 _ _ ((rd_T110 l0 x4_1).f0) ((rd_T110 l0 x4_1).f1) ((rd_T110 l0 x4_1).f2) ((rd_T110 l0 x4_1).f3) t269 t272 t273 t274 _ ?side1 ?side2 A8.out).mono ?_); (case side1 => exact cB_ HR268_0 HB); (case side2 => exact HC268_0.out); rintro e w11 ⟨v270, rfl, ho0, hb⟩; refine ⟨_, rfl, ?_⟩; replace HO_3 := Aside0.mk (Kd.S_elder' (by (with_reducible repeat (first | apply Kd.S_alloc | apply Kd.S_drewN | apply Kd.S_drew)); exact HO_3.out) (Kd.R_base ho0) hb); have HO271 := rL_ ho0 HB; replace HB := bS_ HB hb; (try clear hb); (try clear hb2); (try clear hk); (try clear hi); (try clear ho0); obtain ⟨Aq270_, cq270_, eq_⟩ := Kd.R_slice HO271.out; subst eq_; have p10 : 0 ≤ (x4_1 : Int) := of_decide_eq_true (by first | (with_reducible assumption) | assumption); have q10 : (x4_1 : Int) < ((x3_1.length : Int) : Int) := of_decide_eq_true (by first | (with_reducible assumption) | assumption); obtain ⟨go10, co10, eo10, gb10, gl10, cl10, HG10⟩ := Kd.S_form HO_3.out (by omega); (first | cases eo10 | (injection eo10 with ea_ en_ ec_; (first | subst ea_ | (injection ea_ with ea_; subst ea_)); subst ec_; clear en_)); have GB10 := Aside0.mk gb10; have GG10 := Aside0.mk HG10; clear gb10 gl10 HG10; obtain ⟨_, ce10, hcl10, hM10, hcc10, hfr10, _, _⟩ := Kd.S_elem HO_3.out z39 (x4_1 : Int) p10 q10; obtain ⟨ve10_0, rfl, ge10_0⟩ := k39_openM hM10; have hx10_0 : w11.cell? ⟨go10, (x4_1 : Int).toNat * 4, none⟩ = some (ve10_0) := hcc10 0 _ rfl; have hx10_1 : w11.cell? ⟨go10, (x4_1 : Int).toNat * 4 + 1, none⟩ = some (.int .i64 ((rd_T39 x3_1 x4_1).f1)) := hcc10 1 _ rfl; have hx10_2 : w11.cell? ⟨go10, (x4_1 : Int).toNat * 4 + 2, none⟩ = some (.int .i64 ((rd_T39 x3_1 x4_1).f2)) := hcc10 2 _ rfl; have hx10_3 : w11.cell? ⟨go10, (x4_1 : Int).toNat * 4 + 3, none⟩ = some (.int .i64 ((rd_T39 x3_1 x4_1).f3)) := hcc10 3 _ rfl; have hf10_0 : w11.frozen? ⟨go10, (x4_1 : Int).toNat * 4, none⟩ = false := hfr10 0; have hf10_1 : w11.frozen? ⟨go10, (x4_1 : Int).toNat * 4 + 1, none⟩ = false := hfr10 1; have hf10_2 : w11.frozen? ⟨go10, (x4_1 : Int).toNat * 4 + 2, none⟩ = false := hfr10 2; have hf10_3 : w11.frozen? ⟨go10, (x4_1 : Int).toNat * 4 + 3, none⟩ = false := hfr10 3; clear hcl10 hcc10 hfr10 hM10; replace p10 := eq_true p10; replace q10 := eq_true q10; have n_ := Aside0.mk (Kd.S_mono (ok' := (fun k_ => some k_ ≠ ((.slice Aq270_ t269.length cq270_) : Value).ownBlock)) HO_3.out (fun k_ hk => hk.2)); clear HO_3; have HO_3 := n_; clear n_; have HX12 := Aside0.mk (show Kd.S k39 39 w11 w.heap.size (fun k_ => ((fun _ => True)) k_ ∧ ¬ ((fun k_ => some k_ = ((.slice Aq270_ t269.length cq270_) : Value).ownBlock)) k_) (.slice (some ⟨go10, 0, none⟩) x3_1.length co10) x3_1 from (by (with_reducible repeat (first | apply Kd.S_alloc | apply Kd.S_drewN | apply Kd.S_drew)); exact Kd.S_mono HO_3.out (fun k_ hk => ⟨trivial, fun e_ => hk e_⟩))); obtain ⟨oki12, ce12, hcl12, hM12, hcc12, hfr12, hoki12, hH12⟩ := Kd.S_elem HX12.out z39 (x4_1 : Int) (of_decide_eq_true (by first | (with_reducible assumption) | assumption)) (by have h_ : (x4_1 : Int) < ((x3_1.length : Int) : Int) := of_decide_eq_true (by first | (with_reducible assumption) | assumption); first | exact h_ | (have e_ := (Kd.S_reads' HO_3.out).1; omega) | simpa using h_); obtain ⟨ve12_0, rfl, ge12_0⟩ := k39_openM hM12; have HP12 := Kd.S_seg hH12 (of_decide_eq_true (by first | (with_reducible assumption) | assumption)) (by have h_ : (x4_1 : Int) < ((x3_1.length : Int) : Int) := of_decide_eq_true (by first | (with_reducible assumption) | assumption); first | exact h_ | (have e_ := (Kd.S_reads' HO_3.out).1; omega) | simpa using h_) (seg := [(.slice Aq270_ t269.length cq270_), .int .i64 t272, .int .i64 t273, .int .i64 t274]) (j := 0) (show 4 ≤ 4 from by decide) (x' := (⟨t269, t272, t273, t274⟩ : S39)) (k39_mkM _ _ _ (⟨t269, t272, t273, t274⟩ : S39) (Kd.R_mono (Kd.R_tight rfl (Kd.R_mono (ok' := fun k_ => ((fun _ => True)) k_ ∧ k_ ≠ go10) (Kd.R_apart' (HO271.out) (Kd.S_typed HO_3.out) (by decide)) (fun k_ hk => ⟨trivial, fun e_ => (hk.2) (by rw [e_]; rfl)⟩))) (fun _ h_ => Or.inr (h_)))) (fun _ hk => hk) (fun k_ hk_ => ((Kd.R_mono (ok' := fun k_ => ((fun _ => True)) k_ ∧ k_ ≠ go10) (Kd.R_apart' (HO271.out) (Kd.S_typed HO_3.out) (by decide)) (fun k_ hk => ⟨trivial, fun e_ => (hk.2) (by rw [e_]; rfl)⟩))).1 k_ hk_.symm); have hx12_0 := hcc12 0 _ rfl; (try simp only [show (k39).sz = 4 from rfl, Nat.mul_one, Nat.add_zero] at hx12_0); have hf12_0 := hfr12 0; (try simp only [show (k39).sz = 4 from rfl, Nat.mul_one, Nat.add_zero] at hf12_0); have hx12_1 := hcc12 1 _ rfl; (try simp only [show (k39).sz = 4 from rfl, Nat.mul_one, Nat.add_zero] at hx12_1); have hf12_1 := hfr12 1; (try simp only [show (k39).sz = 4 from rfl, Nat.mul_one, Nat.add_zero] at hf12_1); have hx12_2 := hcc12 2 _ rfl; (try simp only [show (k39).sz = 4 from rfl, Nat.mul_one, Nat.add_zero] at hx12_2); have hf12_2 := hfr12 2; (try simp only [show (k39).sz = 4 from rfl, Nat.mul_one, Nat.add_zero] at hf12_2); have hx12_3 := hcc12 3 _ rfl; (try simp only [show (k39).sz = 4 from rfl, Nat.mul_one, Nat.add_zero] at hx12_3); have hf12_3 := hfr12 3; (try simp only [show (k39).sz = 4 from rfl, Nat.mul_one, Nat.add_zero] at hf12_3); clear hcl12 hcc12 hfr12 hM12 hoki12 hH12) | ((with_reducible refine gate_store (t := 39) (p := 21) rfl ?_); refine store_event (t := 39) (p := 21) (v := ?vo_w13) (w1 := ((((w11.setCell ⟨go10, (x4_1 : Int).toNat * 4, none⟩ ((.slice Aq270_ t269.length cq270_))).setCell ⟨go10, (x4_1 : Int).toNat * 4 + 1, none⟩ (.int .i64 t272)).setCell ⟨go10, (x4_1 : Int).toNat * 4 + 2, none⟩ (.int .i64 t273)).setCell ⟨go10, (x4_1 : Int).toNat * 4 + 3, none⟩ (.int .i64 t274))) ?hg ?ho ?hn ?hr ?_; (case ho => rfl); (case hg => rfl); (case hn => rfl); (case hr => first | (go_simp; done) | (go_simp; rfl)); intro w13 hw; have hg : w11.grownBy w13 (some go10) := (by rw [hw]; exact HP12.2); have hp_ : Kd.S k39 39 w13 w.heap.size (fun _ => True) (.slice (some ⟨go10, 0, none⟩) x3_1.length co10) y275 := (by rw [hw, Ny275.out]; exact HP12.1); clear HP12; replace HO_3 := Aside0.mk (hp_); replace HB := Aside0.mk ((by rw [hw]; exact below_set (below_set (below_set (below_set (HB.out) GB10.out) GB10.out) GB10.out) GB10.out : Below w.heap.size w w13)); clear HO271; clear hg hw hp_))
    go_roundg k1
    case measure => have := HK1.out; omega
    case rel => exact ⟨(y275), (wrap64 (x4_1 + 1)), (by first | rfl | (simp; done) | (simp [*]; done)), H', ⟨by have := HK1.out; omega⟩, ⟨by (with_reducible repeat (first | apply Kd.S_alloc | apply Kd.S_drewN | apply Kd.S_drew)); exact HO_3.out⟩, ⟨sABelo_11⟩⟩
   ·rw [if_neg c6] at H
    have c6b0 : decide (x4_1 < (l0.length : Int)) = false := decide_eq_false c6
    clear c6
    obtain rfl := Option.some.inj H
    go_wp2
    go_ret
    exact ⟨_, by first | rfl | (simp [errW_none, errW_some] <;> rfl) | (simp [*, errW_none, errW_some] <;> rfl), by (with_reducible repeat (first | apply Kd.S_alloc | apply Kd.S_drewN | apply Kd.S_drew)); exact HO_3.out, sABelo_11⟩

/-! ### laws_toSuite: function 28 -/
def laws_toSuite.f (k : Nat) (l0_0 : List (S110)) (l0_1 : List Int) : Option ((List (S39)) × List Int) := (laws_toTaskS.f k l0_0).bind fun t279 => ((laws_toInt64S.f k l0_1).bind fun t282 => (some (t279, t282)))
theorem laws_toSuite.mono : ∀ a0 a1 k, LeO (laws_toSuite.f k a0 a1) (laws_toSuite.f (k + 1) a0 a1) := by
 intro a0 a1 k
 unfold laws_toSuite.f
 repeat' first
   | (with_reducible exact laws_toInt64S.mono _ _)
   | (with_reducible exact laws_toTaskS.mono _ _)
   | (with_reducible exact LeO.refl _)
   | (with_reducible exact LeO.none _)
   | (with_reducible refine LeO.ite ?_ ?_)
   | (with_reducible refine LeO.bind ?_ (fun _ => ?_))
   | exact laws_toInt64S.mono _ _
   | exact laws_toTaskS.mono _ _
   | exact LeO.none _
   | refine LeO.ite ?_ ?_
   | refine LeO.bind ?_ (fun _ => ?_)
set_option maxHeartbeats 8000000 in
set_option maxRecDepth 100000 in
theorem laws_toSuite.calls (k : Nat) (A0_0 : Option Addr) (c0_0 : Nat) (l0_0 : List (S110)) (A0_1 : Option Addr) (c0_1 : Nat) (l0_1 : List Int) (r1 : List (S39)) (r2 : List Int) (w : World) (hr0_0 : Kd.C k110 w A0_0 l0_0.length l0_0) (hc0_0 : l0_0.length ≤ c0_0) (hr0_1 : Kd.C (Kd.int .i64) w A0_1 l0_1.length l0_1) (hc0_1 : l0_1.length ≤ c0_1) (h : laws_toSuite.f k l0_0 l0_1 = some (r1, r2)) :
  Calls Try.prog 28 #[.agg #[.slice A0_0 l0_0.length c0_0, .slice A0_1 l0_1.length c0_1]] w fun e w' => ∃ v0_ v1_ : Value, e = .returned (.agg #[v0_, v1_]) ∧ Kd.S k39 39 w' w.heap.size (fun k_ => some k_ ≠ (v1_ : Value).ownBlock) v0_ r1 ∧ Kd.R (Kd.int .i64) 2 w' w.heap.size (fun _ => True) v1_ r2 ∧ Below w.heap.size w w' := by
 have hu54 := Try.underlying54; have hu27 := Try.underlying27; have HR0_0 := Aside0.mk hr0_0; have HC0_0 := Aside0.mk hc0_0; clear hr0_0 hc0_0; have HR0_1 := Aside0.mk hr0_1; have HC0_1 := Aside0.mk hc0_1; clear hr0_1 hc0_1
 have HB := Aside0.mk (Below.refl w.heap.size w)
 have H : ((laws_toTaskS.f k l0_0).bind fun t279 => ((laws_toInt64S.f k l0_1).bind fun t282 => (some (t279, t282)))) = some (r1, r2) := h
 clear h; replace H := Option.bind_eq_some_iff.mp H
 obtain ⟨t279, A20, H⟩ := H
 replace H : ((laws_toInt64S.f k l0_1).bind fun t282 => (some (t279, t282))) = some (r1, r2) := H
 have A2 := Aside0.mk A20; clear A20; replace H := Option.bind_eq_some_iff.mp H
 obtain ⟨t282, A30, H⟩ := H
 replace H : (some (t279, t282)) = some (r1, r2) := H
 have A3 := Aside0.mk A30; clear A30
 simp only [Option.some.injEq, Prod.mk.injEq] at H
 obtain ⟨rfl, rfl⟩ := H
 go_enter Try.func28, Try.ntmps28
 go_wp2_with (first | ((with_reducible refine gate_dst (N := 1) rfl ?_); refine box_event ?hg (N := 1) ?hd (cs := #[.slice A0_0 l0_0.length c0_0, .slice A0_1 l0_1.length c0_1]) (t := 54) ?hr ?_; (case hd => rfl); (case hg => rfl); (case hr => first | (go_simp; done) | (go_simp; rfl)); intro gb276 hg w4 hbox hb; have BK276 := Aside0.mk (hbox); have GW276 := gE_ HB hg; have GE276 := gE_ HB hg; replace HB := bS_ HB hb; clear hb hbox hg) | ((with_reducible refine gate_dst (N := 2) rfl ?_); refine box_event ?hg (N := 2) ?hd (cs := #[.slice none 0 0, .slice none 0 0]) (t := 27) ?hr ?_; (case hd => rfl); (case hg => rfl); (case hr => first | (go_simp; done) | (go_simp; rfl)); intro gb277 hg w5 hbox hb; have BK277 := Aside0.mk (hbox); have GW277 := gE_ HB hg; have GE277 := gE_ HB hg; replace HB := bS_ HB hb; have NB276_277 := nL_ BK276 hg; have NB277_276 := nG_ BK276 hg; replace BK276 := bB_ BK276 hb; clear hb hbox hg) | ((with_reducible refine gate_dst (N := 3) rfl ?_); refine box_event ?hg (N := 3) ?hd (cs := #[.slice none 0 0, .slice none 0 0]) (t := 27) ?hr ?_; (case hd => rfl); (case hg => rfl); (case hr => first | (go_simp; done) | (go_simp; rfl)); intro gb278 hg w6 hbox hb; have BK278 := Aside0.mk (hbox); have GW278 := gE_ HB hg; have GE278 := gE_ HB hg; replace HB := bS_ HB hb; have NB276_278 := nL_ BK276 hg; have NB278_276 := nG_ BK276 hg; replace BK276 := bB_ BK276 hb; have NB277_278 := nL_ BK277 hg; have NB278_277 := nG_ BK277 hg; replace BK277 := bB_ BK277 hb; clear hb hbox hg; have hnb7 := NB276_277.out; have hnc7 := NB277_276.out; have hnb8 := NB276_278.out; have hnc8 := NB278_276.out; have hcz9_0 : w6.cell? ⟨gb276, 0, none⟩ = some (.slice A0_0 l0_0.length c0_0) := (blk_cell BK276.out 0).trans rfl; have hcz9_1 : w6.cell? ⟨gb276, 1, none⟩ = some (.slice A0_1 l0_1.length c0_1) := (blk_cell BK276.out 1).trans rfl; have hfz9_0 := blk_frozen BK276.out 0; have hfz9_1 := blk_frozen BK276.out 1) | ((with_reducible refine gate_callee (f := 64) rfl ?_); refine gL_ (some 6) Try.func64 #[.slice A0_0 l0_0.length c0_0] ?_; (with_reducible refine (laws_toTaskS.calls k _ _ l0_0 t279 _ ?side1 ?side2 A2.out).mono ?_); (case side1 => exact cB_ HR0_0 HB); (case side2 => exact HC0_0.out); rintro e w10 ⟨v280, rfl, ho0, hb⟩; refine ⟨_, rfl, ?_⟩; have HO281 := Aside0.mk (Kd.S_lower ho0 (below_size sABelo_11)); replace BK276 := bB_ BK276 hb; replace BK277 := bB_ BK277 hb; replace BK278 := bB_ BK278 hb; replace HB := bS_ HB hb; (try clear hb); (try clear hb2); (try clear hk); (try clear hi); (try clear ho0); obtain ⟨Ao11, co11, eo11⟩ := Kd.S_slice HO281.out; subst eo11; have hnb12 := NB278_277.out; have hnc12 := NB277_278.out; have hcz13_0 : w10.cell? ⟨gb278, 0, none⟩ = some (.slice none 0 0) := (blk_cell BK278.out 0).trans rfl; have hcz13_1 : w10.cell? ⟨gb278, 1, none⟩ = some (.slice none 0 0) := (blk_cell BK278.out 1).trans rfl; have hfz13_0 := blk_frozen BK278.out 0; have hfz13_1 := blk_frozen BK278.out 1; have hcz14_0 : w10.cell? ⟨gb276, 0, none⟩ = some (.slice A0_0 l0_0.length c0_0) := (blk_cell BK276.out 0).trans rfl; have hcz14_1 : w10.cell? ⟨gb276, 1, none⟩ = some (.slice A0_1 l0_1.length c0_1) := (blk_cell BK276.out 1).trans rfl; have hfz14_0 := blk_frozen BK276.out 0; have hfz14_1 := blk_frozen BK276.out 1) | ((with_reducible refine gate_callee (f := 65) rfl ?_); refine gL_ (some 10) Try.func65 #[.slice A0_1 l0_1.length c0_1] ?_; (with_reducible refine (laws_toInt64S.calls k _ _ l0_1 t282 _ ?side1 ?side2 A3.out).mono ?_); (case side1 => exact cBF_ HR0_1 HB GE278); (case side2 => exact HC0_1.out); rintro e w15 ⟨v283, rfl, ho0, hb⟩; refine ⟨_, rfl, ?_⟩; replace HO281 := Aside0.mk (Kd.S_elder' (by (with_reducible repeat (first | apply Kd.S_alloc | apply Kd.S_drewN | apply Kd.S_drew)); exact (Kd.S_mono (Kd.S_far (p := ⟨gb278, 0, none⟩) (Kd.S_types HO281.out BK278.out (by decide)) (fun _ hk => hk.2) (.slice Ao11 t279.length co11)) (fun _ h_ => h_.1))) (Kd.R_base ho0) hb); have HO284 := rLF_ ho0 HB; replace BK276 := bBF_ BK276 NB276_278 hb; replace BK277 := bBF_ BK277 NB277_278 hb; replace BK278 := Aside0.mk (blk_below (g := gb278) (o := .cells #[.slice Ao11 t279.length co11, .slice none 0 0] 27 (0, 0)) (by (with_reducible repeat (first | refine blk_drewN ?_ _ | refine blk_drew ?_ | refine blk_alloc ?_ _)); refine blk_put (cs := #[.slice none 0 0, .slice none 0 0]) ?_ 0 _ rfl; exact bT_ BK278) hb); replace HB := bSF_ HB GE278 hb; (try clear hb); (try clear hb2); (try clear hk); (try clear hi); (try clear ho0); obtain ⟨Ao16, co16, eo16⟩ := Kd.R_slice HO284.out; subst eo16; have hcz17_0 : w15.cell? ⟨gb278, 0, none⟩ = some (.slice Ao11 t279.length co11) := (blk_cell BK278.out 0).trans rfl; have hcz17_1 : w15.cell? ⟨gb278, 1, none⟩ = some (.slice none 0 0) := (blk_cell BK278.out 1).trans rfl; have hfz17_0 := blk_frozen BK278.out 0; have hfz17_1 := blk_frozen BK278.out 1; have hcz18_0 : w15.cell? ⟨gb277, 0, none⟩ = some (.slice none 0 0) := (blk_cell BK277.out 0).trans rfl; have hcz18_1 : w15.cell? ⟨gb277, 1, none⟩ = some (.slice none 0 0) := (blk_cell BK277.out 1).trans rfl; have hfz18_0 := blk_frozen BK277.out 0; have hfz18_1 := blk_frozen BK277.out 1))
 refine bodyPost_ret (results_cell_row rfl _ _ gb277 27 #[.slice Ao11 t279.length co11, .slice Ao16 t282.length co16] (0, 0) _ rfl (by (with_reducible repeat (first | refine blk_drewN ?_ _ | refine blk_drew ?_ | refine blk_alloc ?_ _)); refine blk_put (cs := #[.slice Ao11 t279.length co11, .slice none 0 0]) ?_ 1 _ rfl; (with_reducible repeat (first | refine blk_drewN ?_ _ | refine blk_drew ?_ | refine blk_alloc ?_ _)); refine blk_put (cs := #[.slice none 0 0, .slice none 0 0]) ?_ 0 _ rfl; (with_reducible repeat (first | refine blk_drewN ?_ _ | refine blk_drew ?_ | refine blk_alloc ?_ _)); refine blk_far ?_ NB277_278.out _; exact bT_ BK277) Try.underlying27 rfl (by kernel_rfl)) rfl ?_
 exact ⟨_, _, by first | rfl | (simp [errW_none, errW_some] <;> rfl) | (simp [*, errW_none, errW_some] <;> rfl), by (with_reducible repeat (first | apply Kd.S_alloc | apply Kd.S_drewN | apply Kd.S_drew)); exact Kd.S_mono (Kd.S_far (p := ⟨gb277, 1, none⟩) (Kd.S_far (p := ⟨gb277, 0, none⟩) (Kd.S_far (p := ⟨gb278, 1, none⟩) (Kd.S_types (Kd.S_types HO281.out BK278.out (by decide)) BK277.out (by decide)) (fun _ hk => hk.1.2) (.slice Ao16 t282.length co16)) (fun _ hk => hk.2) (.slice Ao11 t279.length co11)) (fun _ hk => hk.2) (.slice Ao16 t282.length co16)) (fun _ hk => hk.1.1.2), by (with_reducible repeat (first | apply Kd.R_alloc | apply Kd.R_drewN | apply Kd.R_drew)); exact Kd.R_mono (Kd.R_far (p := ⟨gb277, 1, none⟩) (Kd.R_far (p := ⟨gb277, 0, none⟩) (Kd.R_far (p := ⟨gb278, 1, none⟩) (Kd.R_types (Kd.R_types HO284.out BK278.out (by decide)) BK277.out (by decide)) (fun _ hk => hk.1.2) (.slice Ao16 t282.length co16)) (fun _ hk => hk.2) (.slice Ao11 t279.length co11)) (fun _ hk => hk.2) (.slice Ao16 t282.length co16)) (fun _ hk => trivial), sABelo_11⟩

/-! ### laws_toJob: function 90 -/
def laws_toJob.f (a0_0 : Int) (a0_1 : Int) : Option (Int × Int) := some (a0_0, a0_1)
set_option maxHeartbeats 8000000 in
set_option maxRecDepth 100000 in
theorem laws_toJob.calls (a0_0 : Int) (a0_1 : Int) (r1 : Int) (r2 : Int) (w : World) (h : laws_toJob.f a0_0 a0_1 = some (r1, r2)) :
  Calls Try.prog 90 #[.agg #[.int .i64 a0_0, .int .i64 a0_1]] w fun e w' => e = .returned (.agg #[.int .i64 r1, .int .i64 r2]) ∧ Below w.heap.size w w' := by
 have hu115 := Try.underlying115; have hu43 := Try.underlying43
 have HB := Aside0.mk (Below.refl w.heap.size w)
 have H : (some (a0_0, a0_1)) = some (r1, r2) := h
 clear h
 simp only [Option.some.injEq, Prod.mk.injEq] at H
 obtain ⟨rfl, rfl⟩ := H
 go_enter Try.func90, Try.ntmps90
 go_wp2_with (first | ((with_reducible refine gate_dst (N := 1) rfl ?_); refine box_event ?hg (N := 1) ?hd (cs := #[.int .i64 a0_0, .int .i64 a0_1]) (t := 115) ?hr ?_; (case hd => rfl); (case hg => rfl); (case hr => first | (go_simp; done) | (go_simp; rfl)); intro gb285 hg w2 hbox hb; have BK285 := Aside0.mk (hbox); have GW285 := gE_ HB hg; have GE285 := gE_ HB hg; replace HB := bS_ HB hb; clear hb hbox hg) | ((with_reducible refine gate_dst (N := 2) rfl ?_); refine box_event ?hg (N := 2) ?hd (cs := #[.int .i64 0, .int .i64 0]) (t := 43) ?hr ?_; (case hd => rfl); (case hg => rfl); (case hr => first | (go_simp; done) | (go_simp; rfl)); intro gb286 hg w3 hbox hb; have BK286 := Aside0.mk (hbox); have GW286 := gE_ HB hg; have GE286 := gE_ HB hg; replace HB := bS_ HB hb; have NB285_286 := nL_ BK285 hg; have NB286_285 := nG_ BK285 hg; replace BK285 := bB_ BK285 hb; clear hb hbox hg) | ((with_reducible refine gate_dst (N := 3) rfl ?_); refine box_event ?hg (N := 3) ?hd (cs := #[.int .i64 0, .int .i64 0]) (t := 43) ?hr ?_; (case hd => rfl); (case hg => rfl); (case hr => first | (go_simp; done) | (go_simp; rfl)); intro gb287 hg w4 hbox hb; have BK287 := Aside0.mk (hbox); have GW287 := gE_ HB hg; have GE287 := gE_ HB hg; replace HB := bS_ HB hb; have NB285_287 := nL_ BK285 hg; have NB287_285 := nG_ BK285 hg; replace BK285 := bB_ BK285 hb; have NB286_287 := nL_ BK286 hg; have NB287_286 := nG_ BK286 hg; replace BK286 := bB_ BK286 hb; clear hb hbox hg; have hnb5 := NB285_286.out; have hnc5 := NB286_285.out; have hnb6 := NB285_287.out; have hnc6 := NB287_285.out; have hcz7_0 : w4.cell? ⟨gb285, 0, none⟩ = some (.int .i64 a0_0) := (blk_cell BK285.out 0).trans rfl; have hcz7_1 : w4.cell? ⟨gb285, 1, none⟩ = some (.int .i64 a0_1) := (blk_cell BK285.out 1).trans rfl; have hfz7_0 := blk_frozen BK285.out 0; have hfz7_1 := blk_frozen BK285.out 1; have hnb8 := NB287_286.out; have hnc8 := NB286_287.out; have hcz9_0 : w4.cell? ⟨gb287, 0, none⟩ = some (.int .i64 0) := (blk_cell BK287.out 0).trans rfl; have hcz9_1 : w4.cell? ⟨gb287, 1, none⟩ = some (.int .i64 0) := (blk_cell BK287.out 1).trans rfl; have hfz9_0 := blk_frozen BK287.out 0; have hfz9_1 := blk_frozen BK287.out 1; have hcz10_0 : w4.cell? ⟨gb286, 0, none⟩ = some (.int .i64 0) := (blk_cell BK286.out 0).trans rfl; have hcz10_1 : w4.cell? ⟨gb286, 1, none⟩ = some (.int .i64 0) := (blk_cell BK286.out 1).trans rfl; have hfz10_0 := blk_frozen BK286.out 0; have hfz10_1 := blk_frozen BK286.out 1))
 refine bodyPost_ret (results_cell_row rfl _ _ gb286 43 #[.int .i64 a0_0, .int .i64 a0_1] (0, 0) _ rfl (by (with_reducible repeat (first | refine blk_drewN ?_ _ | refine blk_drew ?_ | refine blk_alloc ?_ _)); refine blk_put (cs := #[.int .i64 a0_0, .int .i64 0]) ?_ 1 _ rfl; (with_reducible repeat (first | refine blk_drewN ?_ _ | refine blk_drew ?_ | refine blk_alloc ?_ _)); refine blk_put (cs := #[.int .i64 0, .int .i64 0]) ?_ 0 _ rfl; (with_reducible repeat (first | refine blk_drewN ?_ _ | refine blk_drew ?_ | refine blk_alloc ?_ _)); refine blk_far ?_ NB286_287.out _; (with_reducible repeat (first | refine blk_drewN ?_ _ | refine blk_drew ?_ | refine blk_alloc ?_ _)); refine blk_far ?_ NB286_287.out _; exact bT_ BK286) Try.underlying43 rfl (by kernel_rfl)) rfl ?_
 exact ⟨by first | rfl | (simp [errW_none, errW_some] <;> rfl) | (simp [*, errW_none, errW_some] <;> rfl), sABelo_11⟩

/-! ### laws_toJobS: function 73 -/
def laws_toJobS.l0 : Nat → List (S115) → List (S43) → Int → Option ((List (S43)))
 | 0, _, _, _ => none
 | k + 1, x0, x3, x4 => if x4 < (x0.length : Int) then (if 0 ≤ x4 then ((laws_toJob.f ((rd_T115 x0 x4).f0) ((rd_T115 x0 x4).f1)).bind fun bt292 => (if x4 < (x3.length : Int) then (laws_toJobS.l0 k x0 (x3.set (x4 : Int).toNat (⟨bt292.1, bt292.2⟩ : S43)) (wrap64 (x4 + 1))) else (none))) else (none)) else (some x3)
def laws_toJobS.f (k : Nat) (l0 : List (S115)) : Option ((List (S43))) := if 0 ≤ (l0.length : Int) then (if ((l0.length : Int) : Int).toNat ≤ 17592186044416 then (laws_toJobS.l0 k l0 (List.replicate ((l0.length : Int) : Int).toNat z43) 0) else (none)) else (none)
theorem laws_toJobS.mono_l : ∀ k, (∀ y0 y1 y2, LeO (laws_toJobS.l0 k y0 y1 y2) (laws_toJobS.l0 (k + 1) y0 y1 y2))
 | 0 => fun _ _ _ r h => by simp [laws_toJobS.l0] at h
 | k + 1 => by
  have ih0 := laws_toJobS.mono_l k
  ·intro y0 y1 y2
   unfold laws_toJobS.l0
   repeat' first
   | (with_reducible exact ih0 _ _ _)
   | (with_reducible exact LeO.refl _)
   | (with_reducible exact LeO.none _)
   | (with_reducible refine LeO.ite ?_ ?_)
   | (with_reducible refine LeO.bind ?_ (fun _ => ?_))
   | exact ih0 _ _ _
   | exact LeO.none _
   | refine LeO.ite ?_ ?_
   | refine LeO.bind ?_ (fun _ => ?_)
theorem laws_toJobS.mono : ∀ a0 k, LeO (laws_toJobS.f k a0) (laws_toJobS.f (k + 1) a0) := by
 intro a0 k
 have ih0 := laws_toJobS.mono_l k
 unfold laws_toJobS.f
 repeat' first
   | (with_reducible exact ih0 _ _ _)
   | (with_reducible exact LeO.refl _)
   | (with_reducible exact LeO.none _)
   | (with_reducible refine LeO.ite ?_ ?_)
   | (with_reducible refine LeO.bind ?_ (fun _ => ?_))
   | exact ih0 _ _ _
   | exact LeO.none _
   | refine LeO.ite ?_ ?_
   | refine LeO.bind ?_ (fun _ => ?_)
set_option maxHeartbeats 8000000 in
set_option maxRecDepth 100000 in
theorem laws_toJobS.calls (k : Nat) (A0 : Option Addr) (c0 : Nat) (l0 : List (S115)) (r : List (S43)) (w : World) (hr0 : Kd.C k115 w A0 l0.length l0) (hc0 : l0.length ≤ c0) (h : laws_toJobS.f k l0 = some r) :
  Calls Try.prog 73 #[.slice A0 l0.length c0] w fun e w' => ∃ v0_ : Value, e = .returned (v0_) ∧ Kd.R k43 43 w' w.heap.size (fun _ => True) v0_ r ∧ Below w.heap.size w w' := by
 have hu115 := Try.underlying115; have hu43 := Try.underlying43; have HR0 := Aside0.mk hr0; have HC0 := Aside0.mk hc0; clear hr0 hc0
 have HB := Aside0.mk (Below.refl w.heap.size w)
 have H : (if 0 ≤ (l0.length : Int) then (if ((l0.length : Int) : Int).toNat ≤ 17592186044416 then (laws_toJobS.l0 k l0 (List.replicate ((l0.length : Int) : Int).toNat z43) 0) else (none)) else (none)) = some r := h
 clear h
 obtain ⟨c2, H⟩ := ifS_ H
 have c2b0 := eq_true c2
 have c2b1 : decide (0 ≤ (l0.length : Int)) = true := decide_eq_true c2
 clear c2
 obtain ⟨c3, H⟩ := ifS_ H
 have c3b0 := eq_true c3
 have c3b1 : decide (((l0.length : Int) : Int).toNat ≤ 17592186044416) = true := decide_eq_true c3
 clear c3
 obtain ⟨y288, hy288⟩ : ∃ y_ : List (S43), y_ = (List.replicate ((l0.length : Int) : Int).toNat z43) := ⟨_, rfl⟩
 replace H : (laws_toJobS.l0 k l0 y288 0) = some r := by first | (rw [hy288]; with_reducible exact H) | (have H2_ := (Option.bind_some _ _).symm.trans H; rw [hy288]; with_reducible exact H2_) | (have H2_ := (Option.bind_some _ _).symm.trans H; with_reducible exact H2_) | with_reducible exact H | (rw [hy288]; exact H) | exact H
 have Ny288 := Aside0.mk hy288; clear hy288; have H' := Aside0.mk H; clear H
 go_enter Try.func73, Try.ntmps73
 go_wp2_with (first | ((with_reducible refine gate_dst (N := 7) rfl ?_); refine Kd.R_make k43 _ 43 rfl (N := 7) rfl 29 _ _ rfl (l0.length : Int) rfl rfl Try.underlying29 (.agg #[(.int .i64 0), (.int .i64 0)]) 16 info43 rfl (by decide) (by omega) z43 (ok := fun _ => True) (okp := fun _ => True) (k43_mkM _ _ _ z43 ) (fun _ hk => hk) trivial (of_decide_eq_true (by first | (with_reducible assumption) | assumption)) (Nat.le_trans (Nat.mul_le_mul_right _ (of_decide_eq_true (by first | (with_reducible assumption) | assumption) : (l0.length : Int).toNat ≤ 17592186044416)) (by omega)) (Below.refl _ _) (Nat.le_refl _) ?_; intro v289 w4 ho5 hb hg_ hnew_; clear hg_ hnew_; (first | rw [← Ny288.out] at ho5 | (simp only [Int.reduceToNat] at ho5; rw [← Ny288.out] at ho5)); have HO290 := rL_ ho5 HB; replace HB := bS_ HB hb; clear hb ho5))
 go_loopg [4] k (fun kq v4 w' => ∃ (x3_1 : List (S43)) (x4_1 : Int), v4 = .int .i64 x4_1 ∧ Aside0 (laws_toJobS.l0 kq l0 x3_1 x4_1 = some r) ∧ Aside0 (kq ≤ k) ∧ Aside0 (Kd.R k43 43 w' w.heap.size (fun _ => True) v289 x3_1) ∧ Aside0 (Below w.heap.size w w'))
 case atStart => exact ⟨(y288), (0), (by first | rfl | (simp; done) | (simp [*]; done)), H', ⟨Nat.le_refl _⟩, ⟨by (with_reducible repeat (first | apply Kd.R_alloc | apply Kd.R_drewN | apply Kd.R_drew)); exact HO290.out⟩, ⟨sABelo_11⟩⟩
 case round =>
  clear H'; (try clear c2); (try clear c2b0); (try clear c2b1); (try clear p2); (try clear c3); (try clear c3b0); (try clear c3b1)
  obtain ⟨x3_1, x4_1, rfl, HA, HK1, HO_3, HB⟩ := hrel
  cases gk with
  | zero => exact absurd HA.out (by simp [laws_toJobS.l0])
  | succ k1 =>
   have H := HA.out; clear HA
   simp only [laws_toJobS.l0] at H
   by_cases c6 : x4_1 < (l0.length : Int)
   ·rw [if_pos c6] at H
    have c6b0 : decide (x4_1 < (l0.length : Int)) = true := decide_eq_true c6
    clear c6
    obtain ⟨c7, H⟩ := ifS_ H
    have c7b0 : decide (0 ≤ x4_1) = true := decide_eq_true c7
    clear c7; replace H := Option.bind_eq_some_iff.mp H
    obtain ⟨⟨t292, t293⟩, A80, H⟩ := H
    replace H : (if x4_1 < (x3_1.length : Int) then (laws_toJobS.l0 k1 l0 (x3_1.set (x4_1 : Int).toNat (⟨t292, t293⟩ : S43)) (wrap64 (x4_1 + 1))) else (none)) = some r := H
    have A8 := Aside0.mk A80; clear A80
    obtain ⟨c9, H⟩ := ifS_ H
    have c9b0 : decide (x4_1 < (x3_1.length : Int)) = true := decide_eq_true c9
    clear c9
    obtain ⟨y294, hy294⟩ : ∃ y_ : List (S43), y_ = (x3_1.set (x4_1 : Int).toNat (⟨t292, t293⟩ : S43)) := ⟨_, rfl⟩
    replace H : (laws_toJobS.l0 k1 l0 y294 (wrap64 (x4_1 + 1))) = some r := by first | (rw [hy294]; with_reducible exact H) | (have H2_ := (Option.bind_some _ _).symm.trans H; rw [hy294]; with_reducible exact H2_) | (have H2_ := (Option.bind_some _ _).symm.trans H; with_reducible exact H2_) | with_reducible exact H | (rw [hy294]; exact H) | exact H
    have Ny294 := Aside0.mk hy294; clear hy294; have H' := Aside0.mk H; clear H
    have p291 : 0 ≤ (x4_1 : Int) := of_decide_eq_true (by first | (with_reducible assumption) | assumption)
    have q291 : x4_1 < (l0.length : Int) := of_decide_eq_true (by first | (with_reducible assumption) | assumption)
    obtain ⟨ad291, e291, hx291_0, hx291_1⟩ := at_T115 HR0.out x4_1 p291 q291
    cases e291
    replace hx291_0 := (HB.out.cell (World.block_lt_of_cell? w _ hx291_0)).trans hx291_0
    replace hx291_1 := (HB.out.cell (World.block_lt_of_cell? w _ hx291_1)).trans hx291_1
    replace p291 := eq_true p291; replace q291 := eq_true q291
    go_wp2_with (first | ((with_reducible refine gate_callee (f := 90) rfl ?_); refine gL_ (some 20) Try.func90 #[.agg #[.int .i64 ((rd_T115 l0 x4_1).f0), .int .i64 ((rd_T115 l0 x4_1).f1)]] ?_; (with_reducible refine (laws_toJob.calls ((rd_T115 l0 x4_1).f0) ((rd_T115 l0 x4_1).f1) t292 t293 _ A8.out).mono ?_); rintro e w11 ⟨rfl, hb⟩; refine ⟨_, rfl, ?_⟩; replace HO_3 := rB_ HO_3 hb; replace HB := bS_ HB hb; (try clear hb); (try clear hb2); (try clear hk); (try clear hi); have p10 : 0 ≤ (x4_1 : Int) := of_decide_eq_true (by first | (with_reducible assumption) | assumption); have q10 : (x4_1 : Int) < ((x3_1.length : Int) : Int) := of_decide_eq_true (by first | (with_reducible assumption) | assumption); obtain ⟨go10, co10, eo10, gb10, gl10, cl10, HG10⟩ := Kd.R_form HO_3.out (by omega); (first | cases eo10 | (injection eo10 with ea_ en_ ec_; (first | subst ea_ | (injection ea_ with ea_; subst ea_)); subst ec_; clear en_)); have GB10 := Aside0.mk gb10; have GG10 := Aside0.mk HG10; clear gb10 gl10 HG10; obtain ⟨ce10, hcl10, hM10, hcc10, hfr10⟩ := Kd.R_elem HO_3.out z43 (x4_1 : Int) p10 q10; obtain rfl := k43_openM hM10; have hx10_0 : w11.cell? ⟨go10, (x4_1 : Int).toNat * 2, none⟩ = some (.int .i64 ((rd_T43 x3_1 x4_1).f0)) := hcc10 0 _ rfl; have hx10_1 : w11.cell? ⟨go10, (x4_1 : Int).toNat * 2 + 1, none⟩ = some (.int .i64 ((rd_T43 x3_1 x4_1).f1)) := hcc10 1 _ rfl; have hf10_0 : w11.frozen? ⟨go10, (x4_1 : Int).toNat * 2, none⟩ = false := hfr10 0; have hf10_1 : w11.frozen? ⟨go10, (x4_1 : Int).toNat * 2 + 1, none⟩ = false := hfr10 1; clear hcl10 hcc10 hfr10 hM10; replace p10 := eq_true p10; replace q10 := eq_true q10; have HX12 := Aside0.mk (show Kd.R k43 43 w11 w.heap.size (fun _ => True) (.slice (some ⟨go10, 0, none⟩) x3_1.length co10) x3_1 from (rT_ HO_3)); obtain ⟨ce12, hcl12, hM12, hcc12, hfr12⟩ := Kd.R_elem HX12.out z43 (x4_1 : Int) (of_decide_eq_true (by first | (with_reducible assumption) | assumption)) (by have h_ : (x4_1 : Int) < ((x3_1.length : Int) : Int) := of_decide_eq_true (by first | (with_reducible assumption) | assumption); first | exact h_ | (have e_ := (Kd.R_reads' HO_3.out).1; omega) | simpa using h_); obtain rfl := k43_openM hM12; have HP12 := Kd.R_seg HX12.out (x4_1 : Int) (of_decide_eq_true (by first | (with_reducible assumption) | assumption)) (by have h_ : (x4_1 : Int) < ((x3_1.length : Int) : Int) := of_decide_eq_true (by first | (with_reducible assumption) | assumption); first | exact h_ | (have e_ := (Kd.R_reads' HO_3.out).1; omega) | simpa using h_) (seg := [.int .i64 t292, .int .i64 t293]) (j := 0) hcl12 hcc12 (show 2 ≤ 2 from by decide) (x' := (⟨t292, t293⟩ : S43)) (k43_mkM _ _ _ (⟨t292, t293⟩ : S43) ) (fun _ hk => hk); have hx12_0 := hcc12 0 _ rfl; (try simp only [show (k43).sz = 2 from rfl, Nat.mul_one, Nat.add_zero] at hx12_0); have hf12_0 := hfr12 0; (try simp only [show (k43).sz = 2 from rfl, Nat.mul_one, Nat.add_zero] at hf12_0); have hx12_1 := hcc12 1 _ rfl; (try simp only [show (k43).sz = 2 from rfl, Nat.mul_one, Nat.add_zero] at hx12_1); have hf12_1 := hfr12 1; (try simp only [show (k43).sz = 2 from rfl, Nat.mul_one, Nat.add_zero] at hf12_1); clear hcl12 hcc12 hfr12 hM12) | ((with_reducible refine gate_store (t := 43) (p := 21) rfl ?_); refine store_event (t := 43) (p := 21) (v := ?vo_w13) (w1 := ((w11.setCell ⟨go10, (x4_1 : Int).toNat * 2, none⟩ (.int .i64 t292)).setCell ⟨go10, (x4_1 : Int).toNat * 2 + 1, none⟩ (.int .i64 t293))) ?hg ?ho ?hn ?hr ?_; (case ho => rfl); (case hg => rfl); (case hn => rfl); (case hr => first | (go_simp; done) | (go_simp; rfl)); intro w13 hw; have hg : w11.grownBy w13 (some go10) := (by rw [hw]; exact HP12.2); have hp_ : Kd.R k43 43 w13 w.heap.size (fun _ => True) (.slice (some ⟨go10, 0, none⟩) x3_1.length co10) y294 := (by rw [hw, Ny294.out]; exact HP12.1); clear HP12; replace HO_3 := Aside0.mk (hp_); replace HB := Aside0.mk ((by rw [hw]; exact below_set (below_set (HB.out) GB10.out) GB10.out : Below w.heap.size w w13)); clear hg hw hp_))
    go_roundg k1
    case measure => have := HK1.out; omega
    case rel => exact ⟨(y294), (wrap64 (x4_1 + 1)), (by first | rfl | (simp; done) | (simp [*]; done)), H', ⟨by have := HK1.out; omega⟩, ⟨by (with_reducible repeat (first | apply Kd.R_alloc | apply Kd.R_drewN | apply Kd.R_drew)); exact HO_3.out⟩, ⟨sABelo_11⟩⟩
   ·rw [if_neg c6] at H
    have c6b0 : decide (x4_1 < (l0.length : Int)) = false := decide_eq_false c6
    clear c6
    obtain rfl := Option.some.inj H
    go_wp2
    go_ret
    exact ⟨_, by first | rfl | (simp [errW_none, errW_some] <;> rfl) | (simp [*, errW_none, errW_some] <;> rfl), by (with_reducible repeat (first | apply Kd.R_alloc | apply Kd.R_drewN | apply Kd.R_drew)); exact HO_3.out, sABelo_11⟩

/-! ### laws_toRun: function 36 -/
def laws_toRun.f (k : Nat) (l0_0 : List (S110)) (l0_1 : List Int) (a0_2 : Int) (l0_3 : List (S115)) : Option ((List (S39)) × List Int × Int × (List (S43))) := (laws_toSuite.f k l0_0 l0_1).bind fun bt298 => ((laws_toJobS.f k l0_3).bind fun t304 => (some (bt298.1, bt298.2, a0_2, t304)))
theorem laws_toRun.mono : ∀ a0 a1 a2 a3 k, LeO (laws_toRun.f k a0 a1 a2 a3) (laws_toRun.f (k + 1) a0 a1 a2 a3) := by
 intro a0 a1 a2 a3 k
 unfold laws_toRun.f
 repeat' first
   | (with_reducible exact laws_toJobS.mono _ _)
   | (with_reducible exact laws_toSuite.mono _ _ _)
   | (with_reducible exact LeO.refl _)
   | (with_reducible exact LeO.none _)
   | (with_reducible refine LeO.ite ?_ ?_)
   | (with_reducible refine LeO.bind ?_ (fun _ => ?_))
   | exact laws_toJobS.mono _ _
   | exact laws_toSuite.mono _ _ _
   | exact LeO.none _
   | refine LeO.ite ?_ ?_
   | refine LeO.bind ?_ (fun _ => ?_)
set_option maxHeartbeats 8000000 in
set_option maxRecDepth 100000 in
theorem laws_toRun.calls (k : Nat) (A0_0 : Option Addr) (c0_0 : Nat) (l0_0 : List (S110)) (A0_1 : Option Addr) (c0_1 : Nat) (l0_1 : List Int) (a0_2 : Int) (A0_3 : Option Addr) (c0_3 : Nat) (l0_3 : List (S115)) (r1 : List (S39)) (r2 : List Int) (r3 : Int) (r4 : List (S43)) (w : World) (hr0_0 : Kd.C k110 w A0_0 l0_0.length l0_0) (hc0_0 : l0_0.length ≤ c0_0) (hr0_1 : Kd.C (Kd.int .i64) w A0_1 l0_1.length l0_1) (hc0_1 : l0_1.length ≤ c0_1) (hr0_3 : Kd.C k115 w A0_3 l0_3.length l0_3) (hc0_3 : l0_3.length ≤ c0_3) (h : laws_toRun.f k l0_0 l0_1 a0_2 l0_3 = some (r1, r2, r3, r4)) :
  Calls Try.prog 36 #[.agg #[.slice A0_0 l0_0.length c0_0, .slice A0_1 l0_1.length c0_1, .int .i64 a0_2, .slice A0_3 l0_3.length c0_3]] w fun e w' => ∃ v0_ v1_ v3_ : Value, e = .returned (.agg #[v0_, v1_, .int .i64 r3, v3_]) ∧ Kd.S k39 39 w' w.heap.size (fun k_ => some k_ ≠ (v1_ : Value).ownBlock) v0_ r1 ∧ Kd.R (Kd.int .i64) 2 w' w.heap.size (fun _ => True) v1_ r2 ∧ Kd.R k43 43 w' w.heap.size (fun _ => True) v3_ r4 ∧ Below w.heap.size w w' := by
 have hu64 := Try.underlying64; have hu31 := Try.underlying31; have hu54 := Try.underlying54; have hu27 := Try.underlying27; have HR0_0 := Aside0.mk hr0_0; have HC0_0 := Aside0.mk hc0_0; clear hr0_0 hc0_0; have HR0_1 := Aside0.mk hr0_1; have HC0_1 := Aside0.mk hc0_1; clear hr0_1 hc0_1; have HR0_3 := Aside0.mk hr0_3; have HC0_3 := Aside0.mk hc0_3; clear hr0_3 hc0_3
 have HB := Aside0.mk (Below.refl w.heap.size w)
 have H : ((laws_toSuite.f k l0_0 l0_1).bind fun bt298 => ((laws_toJobS.f k l0_3).bind fun t304 => (some (bt298.1, bt298.2, a0_2, t304)))) = some (r1, r2, r3, r4) := h
 clear h; replace H := Option.bind_eq_some_iff.mp H
 obtain ⟨⟨t298, t301⟩, A20, H⟩ := H
 replace H : ((laws_toJobS.f k l0_3).bind fun t304 => (some (t298, t301, a0_2, t304))) = some (r1, r2, r3, r4) := H
 have A2 := Aside0.mk A20; clear A20; replace H := Option.bind_eq_some_iff.mp H
 obtain ⟨t304, A30, H⟩ := H
 replace H : (some (t298, t301, a0_2, t304)) = some (r1, r2, r3, r4) := H
 have A3 := Aside0.mk A30; clear A30
 simp only [Option.some.injEq, Prod.mk.injEq] at H
 obtain ⟨rfl, rfl, rfl, rfl⟩ := H
 go_enter Try.func36, Try.ntmps36
 go_wp2_with (first | ((with_reducible refine gate_dst (N := 1) rfl ?_); refine box_event ?hg (N := 1) ?hd (cs := #[.slice A0_0 l0_0.length c0_0, .slice A0_1 l0_1.length c0_1, .int .i64 a0_2, .slice A0_3 l0_3.length c0_3]) (t := 64) ?hr ?_; (case hd => rfl); (case hg => rfl); (case hr => first | (go_simp; done) | (go_simp; rfl)); intro gb295 hg w4 hbox hb; have BK295 := Aside0.mk (hbox); have GW295 := gE_ HB hg; have GE295 := gE_ HB hg; replace HB := bS_ HB hb; clear hb hbox hg) | ((with_reducible refine gate_dst (N := 2) rfl ?_); refine box_event ?hg (N := 2) ?hd (cs := #[.slice none 0 0, .slice none 0 0, .int .i64 0, .slice none 0 0]) (t := 31) ?hr ?_; (case hd => rfl); (case hg => rfl); (case hr => first | (go_simp; done) | (go_simp; rfl)); intro gb296 hg w5 hbox hb; have BK296 := Aside0.mk (hbox); have GW296 := gE_ HB hg; have GE296 := gE_ HB hg; replace HB := bS_ HB hb; have NB295_296 := nL_ BK295 hg; have NB296_295 := nG_ BK295 hg; replace BK295 := bB_ BK295 hb; clear hb hbox hg) | ((with_reducible refine gate_dst (N := 3) rfl ?_); refine box_event ?hg (N := 3) ?hd (cs := #[.slice none 0 0, .slice none 0 0, .int .i64 0, .slice none 0 0]) (t := 31) ?hr ?_; (case hd => rfl); (case hg => rfl); (case hr => first | (go_simp; done) | (go_simp; rfl)); intro gb297 hg w6 hbox hb; have BK297 := Aside0.mk (hbox); have GW297 := gE_ HB hg; have GE297 := gE_ HB hg; replace HB := bS_ HB hb; have NB295_297 := nL_ BK295 hg; have NB297_295 := nG_ BK295 hg; replace BK295 := bB_ BK295 hb; have NB296_297 := nL_ BK296 hg; have NB297_296 := nG_ BK296 hg; replace BK296 := bB_ BK296 hb; clear hb hbox hg; have hnb7 := NB295_296.out; have hnc7 := NB296_295.out; have hnb8 := NB295_297.out; have hnc8 := NB297_295.out; have hcz9_0 : w6.cell? ⟨gb295, 0, none⟩ = some (.slice A0_0 l0_0.length c0_0) := (blk_cell BK295.out 0).trans rfl; have hcz9_1 : w6.cell? ⟨gb295, 1, none⟩ = some (.slice A0_1 l0_1.length c0_1) := (blk_cell BK295.out 1).trans rfl; have hcz9_2 : w6.cell? ⟨gb295, 2, none⟩ = some (.int .i64 a0_2) := (blk_cell BK295.out 2).trans rfl; have hcz9_3 : w6.cell? ⟨gb295, 3, none⟩ = some (.slice A0_3 l0_3.length c0_3) := (blk_cell BK295.out 3).trans rfl; have hfz9_0 := blk_frozen BK295.out 0; have hfz9_1 := blk_frozen BK295.out 1; have hfz9_2 := blk_frozen BK295.out 2; have hfz9_3 := blk_frozen BK295.out 3) | ((with_reducible refine gate_callee (f := 28) rfl ?_); refine gL_ (some 6) Try.func28 #[.agg #[.slice A0_0 l0_0.length c0_0, .slice A0_1 l0_1.length c0_1]] ?_; (with_reducible refine (laws_toSuite.calls k _ _ l0_0 _ _ l0_1 t298 t301 _ ?side1 ?side2 ?side3 ?side4 A2.out).mono ?_); (case side1 => exact cB_ HR0_0 HB); (case side2 => exact HC0_0.out); (case side3 => exact cB_ HR0_1 HB); (case side4 => exact HC0_1.out); rintro e w10 ⟨v299, v302, rfl, ho0, ho1, hb⟩; refine ⟨_, rfl, ?_⟩; have HO300 := Aside0.mk (Kd.S_lower ho0 (below_size sABelo_11)); have HO303 := rL_ ho1 HB; replace BK295 := bB_ BK295 hb; replace BK296 := bB_ BK296 hb; replace BK297 := bB_ BK297 hb; replace HB := bS_ HB hb; (try clear hb); (try clear hb2); (try clear hk); (try clear hi); (try clear ho0); (try clear ho1); obtain ⟨Ao11, co11, eo11⟩ := Kd.S_slice HO300.out; subst eo11; have hnb12 := NB297_296.out; have hnc12 := NB296_297.out; have hcz13_0 : w10.cell? ⟨gb297, 0, none⟩ = some (.slice none 0 0) := (blk_cell BK297.out 0).trans rfl; have hcz13_1 : w10.cell? ⟨gb297, 1, none⟩ = some (.slice none 0 0) := (blk_cell BK297.out 1).trans rfl; have hcz13_2 : w10.cell? ⟨gb297, 2, none⟩ = some (.int .i64 0) := (blk_cell BK297.out 2).trans rfl; have hcz13_3 : w10.cell? ⟨gb297, 3, none⟩ = some (.slice none 0 0) := (blk_cell BK297.out 3).trans rfl; have hfz13_0 := blk_frozen BK297.out 0; have hfz13_1 := blk_frozen BK297.out 1; have hfz13_2 := blk_frozen BK297.out 2; have hfz13_3 := blk_frozen BK297.out 3; obtain ⟨Ao14, co14, eo14⟩ := Kd.R_slice HO303.out; subst eo14; have hcz15_0 : w10.cell? ⟨gb295, 0, none⟩ = some (.slice A0_0 l0_0.length c0_0) := (blk_cell BK295.out 0).trans rfl; have hcz15_1 : w10.cell? ⟨gb295, 1, none⟩ = some (.slice A0_1 l0_1.length c0_1) := (blk_cell BK295.out 1).trans rfl; have hcz15_2 : w10.cell? ⟨gb295, 2, none⟩ = some (.int .i64 a0_2) := (blk_cell BK295.out 2).trans rfl; have hcz15_3 : w10.cell? ⟨gb295, 3, none⟩ = some (.slice A0_3 l0_3.length c0_3) := (blk_cell BK295.out 3).trans rfl; have hfz15_0 := blk_frozen BK295.out 0; have hfz15_1 := blk_frozen BK295.out 1; have hfz15_2 := blk_frozen BK295.out 2; have hfz15_3 := blk_frozen BK295.out 3) | ((with_reducible refine gate_callee (f := 73) rfl ?_); refine gL_ (some 13) Try.func73 #[.slice A0_3 l0_3.length c0_3] ?_; (with_reducible refine (laws_toJobS.calls k _ _ l0_3 t304 _ ?side1 ?side2 A3.out).mono ?_); (case side1 => exact cBF_ HR0_3 HB GE297); (case side2 => exact HC0_3.out); rintro e w16 ⟨v305, rfl, ho0, hb⟩; refine ⟨_, rfl, ?_⟩; replace HO300 := Aside0.mk (Kd.S_below (by (with_reducible repeat (first | apply Kd.S_alloc | apply Kd.S_drewN | apply Kd.S_drew)); exact (Kd.S_mono (Kd.S_far (p := ⟨gb297, 2, none⟩) (Kd.S_far (p := ⟨gb297, 1, none⟩) (Kd.S_far (p := ⟨gb297, 0, none⟩) (Kd.S_types HO300.out BK297.out (by decide)) (fun _ hk => hk.2) (.slice Ao11 t298.length co11)) (fun _ hk => hk.2) (.slice Ao14 t301.length co14)) (fun _ hk => hk.2) (.int .i64 a0_2)) (fun _ h_ => h_.1))) hb); replace HO303 := rBF_ HO303 BK297 hb; have HO306 := rLF_ ho0 HB; replace BK295 := bBF_ BK295 NB295_297 hb; replace BK296 := bBF_ BK296 NB296_297 hb; replace BK297 := Aside0.mk (blk_below (g := gb297) (o := .cells #[.slice Ao11 t298.length co11, .slice Ao14 t301.length co14, .int .i64 a0_2, .slice none 0 0] 31 (0, 0)) (by (with_reducible repeat (first | refine blk_drewN ?_ _ | refine blk_drew ?_ | refine blk_alloc ?_ _)); refine blk_put (cs := #[.slice Ao11 t298.length co11, .slice Ao14 t301.length co14, .int .i64 0, .slice none 0 0]) ?_ 2 _ rfl; (with_reducible repeat (first | refine blk_drewN ?_ _ | refine blk_drew ?_ | refine blk_alloc ?_ _)); refine blk_put (cs := #[.slice Ao11 t298.length co11, .slice none 0 0, .int .i64 0, .slice none 0 0]) ?_ 1 _ rfl; (with_reducible repeat (first | refine blk_drewN ?_ _ | refine blk_drew ?_ | refine blk_alloc ?_ _)); refine blk_put (cs := #[.slice none 0 0, .slice none 0 0, .int .i64 0, .slice none 0 0]) ?_ 0 _ rfl; exact bT_ BK297) hb); replace HB := bSF_ HB GE297 hb; (try clear hb); (try clear hb2); (try clear hk); (try clear hi); (try clear ho0); obtain ⟨Ao17, co17, eo17⟩ := Kd.R_slice HO306.out; subst eo17; have hcz18_0 : w16.cell? ⟨gb297, 0, none⟩ = some (.slice Ao11 t298.length co11) := (blk_cell BK297.out 0).trans rfl; have hcz18_1 : w16.cell? ⟨gb297, 1, none⟩ = some (.slice Ao14 t301.length co14) := (blk_cell BK297.out 1).trans rfl; have hcz18_2 : w16.cell? ⟨gb297, 2, none⟩ = some (.int .i64 a0_2) := (blk_cell BK297.out 2).trans rfl; have hcz18_3 : w16.cell? ⟨gb297, 3, none⟩ = some (.slice none 0 0) := (blk_cell BK297.out 3).trans rfl; have hfz18_0 := blk_frozen BK297.out 0; have hfz18_1 := blk_frozen BK297.out 1; have hfz18_2 := blk_frozen BK297.out 2; have hfz18_3 := blk_frozen BK297.out 3; have hcz19_0 : w16.cell? ⟨gb296, 0, none⟩ = some (.slice none 0 0) := (blk_cell BK296.out 0).trans rfl; have hcz19_1 : w16.cell? ⟨gb296, 1, none⟩ = some (.slice none 0 0) := (blk_cell BK296.out 1).trans rfl; have hcz19_2 : w16.cell? ⟨gb296, 2, none⟩ = some (.int .i64 0) := (blk_cell BK296.out 2).trans rfl; have hcz19_3 : w16.cell? ⟨gb296, 3, none⟩ = some (.slice none 0 0) := (blk_cell BK296.out 3).trans rfl; have hfz19_0 := blk_frozen BK296.out 0; have hfz19_1 := blk_frozen BK296.out 1; have hfz19_2 := blk_frozen BK296.out 2; have hfz19_3 := blk_frozen BK296.out 3))
 refine bodyPost_ret (results_cell_row rfl _ _ gb296 31 #[.slice Ao11 t298.length co11, .slice Ao14 t301.length co14, .int .i64 a0_2, .slice Ao17 t304.length co17] (0, 0) _ rfl (by (with_reducible repeat (first | refine blk_drewN ?_ _ | refine blk_drew ?_ | refine blk_alloc ?_ _)); refine blk_put (cs := #[.slice Ao11 t298.length co11, .slice Ao14 t301.length co14, .int .i64 a0_2, .slice none 0 0]) ?_ 3 _ rfl; (with_reducible repeat (first | refine blk_drewN ?_ _ | refine blk_drew ?_ | refine blk_alloc ?_ _)); refine blk_put (cs := #[.slice Ao11 t298.length co11, .slice Ao14 t301.length co14, .int .i64 0, .slice none 0 0]) ?_ 2 _ rfl; (with_reducible repeat (first | refine blk_drewN ?_ _ | refine blk_drew ?_ | refine blk_alloc ?_ _)); refine blk_put (cs := #[.slice Ao11 t298.length co11, .slice none 0 0, .int .i64 0, .slice none 0 0]) ?_ 1 _ rfl; (with_reducible repeat (first | refine blk_drewN ?_ _ | refine blk_drew ?_ | refine blk_alloc ?_ _)); refine blk_put (cs := #[.slice none 0 0, .slice none 0 0, .int .i64 0, .slice none 0 0]) ?_ 0 _ rfl; (with_reducible repeat (first | refine blk_drewN ?_ _ | refine blk_drew ?_ | refine blk_alloc ?_ _)); refine blk_far ?_ NB296_297.out _; exact bT_ BK296) Try.underlying31 rfl (by kernel_rfl)) rfl ?_
 exact ⟨_, _, _, by first | rfl | (simp [errW_none, errW_some] <;> rfl) | (simp [*, errW_none, errW_some] <;> rfl), by (with_reducible repeat (first | apply Kd.S_alloc | apply Kd.S_drewN | apply Kd.S_drew)); exact Kd.S_mono (Kd.S_far (p := ⟨gb296, 3, none⟩) (Kd.S_far (p := ⟨gb296, 2, none⟩) (Kd.S_far (p := ⟨gb296, 1, none⟩) (Kd.S_far (p := ⟨gb296, 0, none⟩) (Kd.S_far (p := ⟨gb297, 3, none⟩) (Kd.S_types (Kd.S_types HO300.out BK297.out (by decide)) BK296.out (by decide)) (fun _ hk => hk.1.2) (.slice Ao17 t304.length co17)) (fun _ hk => hk.2) (.slice Ao11 t298.length co11)) (fun _ hk => hk.2) (.slice Ao14 t301.length co14)) (fun _ hk => hk.2) (.int .i64 a0_2)) (fun _ hk => hk.2) (.slice Ao17 t304.length co17)) (fun _ hk => hk.1.1), by (with_reducible repeat (first | apply Kd.R_alloc | apply Kd.R_drewN | apply Kd.R_drew)); exact Kd.R_mono (Kd.R_far (p := ⟨gb296, 3, none⟩) (Kd.R_far (p := ⟨gb296, 2, none⟩) (Kd.R_far (p := ⟨gb296, 1, none⟩) (Kd.R_far (p := ⟨gb296, 0, none⟩) (Kd.R_far (p := ⟨gb297, 3, none⟩) (Kd.R_types (Kd.R_types HO303.out BK297.out (by decide)) BK296.out (by decide)) (fun _ hk => hk.1.2) (.slice Ao17 t304.length co17)) (fun _ hk => hk.2) (.slice Ao11 t298.length co11)) (fun _ hk => hk.2) (.slice Ao14 t301.length co14)) (fun _ hk => hk.2) (.int .i64 a0_2)) (fun _ hk => hk.2) (.slice Ao17 t304.length co17)) (fun _ hk => trivial), by (with_reducible repeat (first | apply Kd.R_alloc | apply Kd.R_drewN | apply Kd.R_drew)); exact Kd.R_mono (Kd.R_far (p := ⟨gb296, 3, none⟩) (Kd.R_far (p := ⟨gb296, 2, none⟩) (Kd.R_far (p := ⟨gb296, 1, none⟩) (Kd.R_far (p := ⟨gb296, 0, none⟩) (Kd.R_far (p := ⟨gb297, 3, none⟩) (Kd.R_types (Kd.R_types HO306.out BK297.out (by decide)) BK296.out (by decide)) (fun _ hk => hk.1.2) (.slice Ao17 t304.length co17)) (fun _ hk => hk.2) (.slice Ao11 t298.length co11)) (fun _ hk => hk.2) (.slice Ao14 t301.length co14)) (fun _ hk => hk.2) (.int .i64 a0_2)) (fun _ hk => hk.2) (.slice Ao17 t304.length co17)) (fun _ hk => trivial), sABelo_11⟩

end Go.Proofs.Ytjoghfehmhapbaa.QFnExactCrashRun
