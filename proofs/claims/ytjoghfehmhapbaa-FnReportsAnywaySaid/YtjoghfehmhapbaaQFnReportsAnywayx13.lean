-- Written by a program of this session out of the printer's texts and contracts of its own.
import Derived.Test.YtjoghfehmhapbaaSq
import Derived.Test.YtjoghfehmhapbaaQFnReportsAnywayx0
import Derived.Test.YtjoghfehmhapbaaQFnReportsAnywayx11
import Derived.Test.YtjoghfehmhapbaaQFnReportsAnywayx12
namespace Go.Proofs.Ytjoghfehmhapbaa.QFnReportsAnyway
open Go.RowKit Go.Proofs.YtjoghfehmhapbaaW.PrintWords Go.Proofs.YtjoghfehmhapbaaW.PrintLast Go.Proofs.YtjoghfehmhapbaaW.PrintMore Go.Proofs.Ytjoghfehmhapbaa.Sq
attribute [local go_sem] max2_int min2_int max_two min_two max_three min_three max_four min_four   -- for this text's walks alone
set_option linter.unusedVariables false
set_option linter.unusedSimpArgs false
theorem sABelo_13 {b : Nat} {w W : World} (h : Below b w W := by repeat (first | (with_reducible first | exact Aside0.out (by assumption) | apply below_alloc | apply pw_below_drewN | apply below_drew1 | refine below_set ?_ (Aside0.out (by assumption))) | exact Aside0.out (by assumption))) : Below b w W := h

/-! ### spec_TickRun: function 24 -/
mutual
def spec_TickRun.j0 : Nat → Int → List Int → Bool → List (S39) → List Int → Int → List (S43) → Option ((List (S39)) × List Int × Int × (List (S43)) × List Int)
 | 0, _, _, _, _, _, _, _ => none
 | k + 1, x1, x6, x17, x298000, x298001, x298002, x298003 => if x17 = true then (some (([] : List (S39)), ([] : List Int), 0, ([] : List (S43)), x6)) else ((spec_l24Copy.f k x298000 x298001 x298002 x298003).bind fun bt303 => (spec_TickRun.l0 k x6 0 x298000 x298001 x298002 x298003 bt303.1 bt303.2.1 (mn (wrap64 (x298002 + (mn x1 1000000000000))) 1000000000000) bt303.2.2.2))
def spec_TickRun.l0 : Nat → List Int → Int → List (S39) → List Int → Int → List (S43) → List (S39) → List Int → Int → List (S43) → Option ((List (S39)) × List Int × Int × (List (S43)) × List Int)
 | 0, _, _, _, _, _, _, _, _, _, _ => none
 | k + 1, x6, x8, x298000, x298001, x298002, x298003, x314000, x314001, x314002, x314003 => if x8 < (x298003.length : Int) then (if 0 ≤ x8 then (if x8 < (x298000.length : Int) then (if ((rd_T39 x298000 x8).f2) > 0 then (if ((rd_T43 x298003 x8).f0) = 2 then (spec_TickRun.l0 k x6 (wrap64 (x8 + 1)) x298000 x298001 x298002 x298003 x314000 x314001 x314002 x314003) else (if ((rd_T39 x298000 x8).f2) ≥ x298002 then (if ((rd_T39 x298000 x8).f2) < x314002 then (if x6.length < 17592186044416 then (spec_TickRun.l0 k (x6 ++ [wrap64 (x8 + 1)]) (wrap64 (x8 + 1)) x298000 x298001 x298002 x298003 x314000 x314001 x314002 x314003) else (none)) else (spec_TickRun.l0 k x6 (wrap64 (x8 + 1)) x298000 x298001 x298002 x298003 x314000 x314001 x314002 x314003)) else (spec_TickRun.l0 k x6 (wrap64 (x8 + 1)) x298000 x298001 x298002 x298003 x314000 x314001 x314002 x314003))) else (spec_TickRun.l0 k x6 (wrap64 (x8 + 1)) x298000 x298001 x298002 x298003 x314000 x314001 x314002 x314003)) else (none)) else (none)) else (some (x314000, x314001, x314002, x314003, x6))
end
def spec_TickRun.f (k : Nat) (l0_0 : List (S39)) (l0_1 : List Int) (a0_2 : Int) (l0_3 : List (S43)) (a1 : Int) : Option ((List (S39)) × List Int × Int × (List (S43)) × List Int) := (some (([] : List Int) : List Int)).bind fun y299 => ((spec_l24Ok.f k l0_0 l0_1 a0_2 l0_3).bind fun t302 => (if t302 = true then (spec_TickRun.j0 k a1 y299 (decide (a1 < 0)) l0_0 l0_1 a0_2 l0_3) else (spec_TickRun.j0 k a1 y299 true l0_0 l0_1 a0_2 l0_3)))
theorem spec_TickRun.mono_l : ∀ k, (∀ y0 y1 y2 y3 y4 y5 y6, LeO (spec_TickRun.j0 k y0 y1 y2 y3 y4 y5 y6) (spec_TickRun.j0 (k + 1) y0 y1 y2 y3 y4 y5 y6)) ∧ (∀ y0 y1 y2 y3 y4 y5 y6 y7 y8 y9, LeO (spec_TickRun.l0 k y0 y1 y2 y3 y4 y5 y6 y7 y8 y9) (spec_TickRun.l0 (k + 1) y0 y1 y2 y3 y4 y5 y6 y7 y8 y9))
 | 0 => ⟨fun _ _ _ _ _ _ _ r h => by simp [spec_TickRun.j0] at h, fun _ _ _ _ _ _ _ _ _ _ r h => by simp [spec_TickRun.l0] at h⟩
 | k + 1 => by
  obtain ⟨ih0, ih1⟩ := spec_TickRun.mono_l k
  refine ⟨?_, ?_⟩
  intro y0 y1 y2 y3 y4 y5 y6; unfold spec_TickRun.j0; rotate_left
  intro y0 y1 y2 y3 y4 y5 y6 y7 y8 y9; unfold spec_TickRun.l0; rotate_left
  all_goals repeat' first
  | (with_reducible exact ih0 _ _ _ _ _ _ _)
  | (with_reducible exact ih1 _ _ _ _ _ _ _ _ _ _)
  | (with_reducible exact spec_l24Copy.mono _ _ _ _ _)
  | (with_reducible exact spec_l24Ok.mono _ _ _ _ _)
  | (with_reducible exact LeO.refl _)
  | (with_reducible exact LeO.none _)
  | (with_reducible refine LeO.ite ?_ ?_)
  | (with_reducible refine LeO.bind ?_ (fun _ => ?_))
  | exact ih0 _ _ _ _ _ _ _
  | exact ih1 _ _ _ _ _ _ _ _ _ _
  | exact spec_l24Copy.mono _ _ _ _ _
  | exact spec_l24Ok.mono _ _ _ _ _
  | exact LeO.none _
  | refine LeO.ite ?_ ?_
  | refine LeO.bind ?_ (fun _ => ?_)
theorem spec_TickRun.mono : ∀ a0 a1 a2 a3 a4 k, LeO (spec_TickRun.f k a0 a1 a2 a3 a4) (spec_TickRun.f (k + 1) a0 a1 a2 a3 a4) := by
 intro a0 a1 a2 a3 a4 k
 obtain ⟨ih0, ih1⟩ := spec_TickRun.mono_l k
 unfold spec_TickRun.f
 repeat' first
   | (with_reducible exact ih0 _ _ _ _ _ _ _)
   | (with_reducible exact ih1 _ _ _ _ _ _ _ _ _ _)
   | (with_reducible exact spec_l24Copy.mono _ _ _ _ _)
   | (with_reducible exact spec_l24Ok.mono _ _ _ _ _)
   | (with_reducible exact LeO.refl _)
   | (with_reducible exact LeO.none _)
   | (with_reducible refine LeO.ite ?_ ?_)
   | (with_reducible refine LeO.bind ?_ (fun _ => ?_))
   | exact ih0 _ _ _ _ _ _ _
   | exact ih1 _ _ _ _ _ _ _ _ _ _
   | exact LeO.none _
   | refine LeO.ite ?_ ?_
   | refine LeO.bind ?_ (fun _ => ?_)
set_option maxHeartbeats 8000000 in
set_option maxRecDepth 100000 in
theorem spec_TickRun.calls (k : Nat) (A0_0 : Option Addr) (c0_0 : Nat) (l0_0 : List (S39)) (A0_1 : Option Addr) (c0_1 : Nat) (l0_1 : List Int) (a0_2 : Int) (A0_3 : Option Addr) (c0_3 : Nat) (l0_3 : List (S43)) (a1 : Int) (r1 : List (S39)) (r2 : List Int) (r3 : Int) (r4 : List (S43)) (r5 : List Int) (w : World) (hr0_0 : Kd.C k39 w A0_0 l0_0.length l0_0) (hc0_0 : l0_0.length ≤ c0_0) (hr0_1 : Kd.C (Kd.int .i64) w A0_1 l0_1.length l0_1) (hc0_1 : l0_1.length ≤ c0_1) (hr0_3 : Kd.C k43 w A0_3 l0_3.length l0_3) (hc0_3 : l0_3.length ≤ c0_3) (h : spec_TickRun.f k l0_0 l0_1 a0_2 l0_3 a1 = some (r1, r2, r3, r4, r5)) :
  Calls Try.prog 24 #[.agg #[.slice A0_0 l0_0.length c0_0, .slice A0_1 l0_1.length c0_1, .int .i64 a0_2, .slice A0_3 l0_3.length c0_3], .int .i64 a1] w fun e w' => ∃ v0_ v1_ v3_ v4_ : Value, e = .returned (.tuple #[.agg #[v0_, v1_, .int .i64 r3, v3_], v4_]) ∧ Kd.S k39 39 w' w.heap.size (fun k_ => some k_ ≠ (v1_ : Value).ownBlock ∧ some k_ ≠ (v4_ : Value).ownBlock) v0_ r1 ∧ Kd.R (Kd.int .i64) 2 w' w.heap.size (fun k_ => some k_ ≠ (v4_ : Value).ownBlock) v1_ r2 ∧ Kd.R k43 43 w' w.heap.size (fun _ => True) v3_ r4 ∧ Kd.R (Kd.int .i64) 2 w' w.heap.size (fun k_ => some k_ ≠ (v1_ : Value).ownBlock) v4_ r5 ∧ Below w.heap.size w w' := by
 have hu31 := Try.underlying31; have hu39 := Try.underlying39; have HR0_0 := mk_ hr0_0; have HC0_0 := mk_ hc0_0; clear hr0_0 hc0_0; have HR0_1 := mk_ hr0_1; have HC0_1 := mk_ hc0_1; clear hr0_1 hc0_1; have HR0_3 := mk_ hr0_3; have HC0_3 := mk_ hc0_3; clear hr0_3 hc0_3
 have HB := mk_ (Below.refl w.heap.size w)
 have H : ((some (([] : List Int) : List Int)).bind fun y299 => ((spec_l24Ok.f k l0_0 l0_1 a0_2 l0_3).bind fun t302 => (if t302 = true then (spec_TickRun.j0 k a1 y299 (decide (a1 < 0)) l0_0 l0_1 a0_2 l0_3) else (spec_TickRun.j0 k a1 y299 true l0_0 l0_1 a0_2 l0_3)))) = some (r1, r2, r3, r4, r5) := h
 clear h
 obtain ⟨y299, hy299⟩ : ∃ y_ : List Int, y_ = (([] : List Int)) := ⟨_, rfl⟩
 replace H : ((spec_l24Ok.f k l0_0 l0_1 a0_2 l0_3).bind fun t302 => (if t302 = true then (spec_TickRun.j0 k a1 y299 (decide (a1 < 0)) l0_0 l0_1 a0_2 l0_3) else (spec_TickRun.j0 k a1 y299 true l0_0 l0_1 a0_2 l0_3))) = some (r1, r2, r3, r4, r5) := by first | (rw [hy299]; with_reducible exact H) | (have H2_ := (Option.bind_some _ _).symm.trans H; rw [hy299]; with_reducible exact H2_) | (have H2_ := (Option.bind_some _ _).symm.trans H; with_reducible exact H2_) | with_reducible exact H | (rw [hy299]; exact H) | exact H
 have Ny299 := mk_ hy299; clear hy299; have HC3 := mk_ H; clear H
 go_enter Try.func24, Try.ntmps24
 go_upto_region 2 with (first | ((with_reducible refine gate_dst (N := 2) rfl ?_); refine box_event ?hg (N := 2) ?hd (cs := #[.slice A0_0 l0_0.length c0_0, .slice A0_1 l0_1.length c0_1, .int .i64 a0_2, .slice A0_3 l0_3.length c0_3]) (t := 31) ?hr ?_; (case hd => rfl); (case hg => rfl); (case hr => first | (go_simp; done) | (go_simp; rfl)); intro gb297 hg w4 hbox hb; have BK297 := mk_ (hbox); have GW297 := gE_ HB hg; have GE297 := gE_ HB hg; replace HB := bS_ HB hb; clear hb hbox hg) | ((with_reducible refine gate_dst (N := 4) rfl ?_); refine box_event ?hg (N := 4) ?hd (cs := #[.slice none 0 0, .slice none 0 0, .int .i64 0, .slice none 0 0]) (t := 31) ?hr ?_; (case hd => rfl); (case hg => rfl); (case hr => first | (go_simp; done) | (go_simp; rfl)); intro gb298 hg w5 hbox hb; have BK298 := mk_ (hbox); have GW298 := gE_ HB hg; have GE298 := gE_ HB hg; replace HB := bS_ HB hb; have NB297_298 := nL_ BK297 hg; have NB298_297 := nG_ BK297 hg; replace BK297 := bB_ BK297 hb; clear hb hbox hg) | ((with_reducible refine gate_dst (N := 10) rfl ?_); refine Kd.R_lit (Kd.int .i64) _ 2 ?hg (N := 10) ?hd (xs := ([] : List Int)) (inner := []) (ok := fun _ => True) (okp := fun _ => True) ?hr ?hp (fun _ hk => hk) trivial (Below.refl _ _) (Nat.le_refl _) (by simp) ?_; (case hd => rfl); (case hg => rfl); (case hr => first | (go_simp; done) | (go_simp; rfl)); (case hp => exact (Reps.none _ _)); intro v300 w6 ho7 hb hg_ hnew_; clear hg_ hnew_; (first | rw [← Ny299.out] at ho7 | (simp only [Int.reduceToNat] at ho7; rw [← Ny299.out] at ho7)); have HO301 := rL_ ho7 HB; replace BK297 := bB_ BK297 hb; replace BK298 := bB_ BK298 hb; replace HB := bS_ HB hb; clear hb ho7))
 (try simp only [Act.put, List.setIfInBounds_toArray, List.set_cons_zero, List.set_cons_succ])
 go_cut [17] (fun v17 wc => ∃ (kq : Nat) (x17_2 : Bool), v17 = .bool x17_2 ∧ Aside0 (spec_TickRun.j0 kq a1 y299 x17_2 l0_0 l0_1 a0_2 l0_3 = some (r1, r2, r3, r4, r5)) ∧ Aside0 (kq ≤ k) ∧ Aside0 (Kd.R (Kd.int .i64) 2 wc w.heap.size (fun _ => True) v300 y299) ∧ Aside0 (wc.heap[gb297]? = some (.cells #[(.slice A0_0 l0_0.length c0_0), (.slice A0_1 l0_1.length c0_1), .int .i64 a0_2, (.slice A0_3 l0_3.length c0_3)] 31 (0, 0))) ∧ Aside0 (wc.heap[gb298]? = some (.cells #[(.slice none 0 0), (.slice none 0 0), .int .i64 0, (.slice none 0 0)] 31 (0, 0))) ∧ Aside0 (Below w.heap.size w wc))
 case first =>
  have H := HC3.out; clear HC3; replace H := Option.bind_eq_some_iff.mp H
  obtain ⟨t302, A80, H⟩ := H
  (try dsimp only at H)
  have A8 := mk_ A80; clear A80
  by_cases c9 : t302 = true
  ·subst c9
   replace H := ifT_ H; have H' := mk_ H; clear H; have hnb10 := NB297_298.out; have hnc10 := NB298_297.out
   obtain ⟨hcz11_0, hcz11_1, hcz11_2, hcz11_3, hfz11_0, hfz11_1, hfz11_2, hfz11_3⟩ := cf4_ BK297
   go_wp2_with (first | ((with_reducible refine gate_callee (f := 58) rfl ?_); refine gL_ (some 12) Try.func58 #[.agg #[.slice A0_0 l0_0.length c0_0, .slice A0_1 l0_1.length c0_1, .int .i64 a0_2, .slice A0_3 l0_3.length c0_3]] ?_; (with_reducible refine (spec_l24Ok.calls k _ _ l0_0 _ _ l0_1 a0_2 _ _ l0_3 true _ ?side1 ?side2 ?side3 ?side4 ?side5 ?side6 A8.out).mono ?_); (case side1 => exact cB_ HR0_0 HB); (case side2 => exact HC0_0.out); (case side3 => exact cB_ HR0_1 HB); (case side4 => exact HC0_1.out); (case side5 => exact cB_ HR0_3 HB); (case side6 => exact HC0_3.out); rintro e w12 ⟨rfl, hb⟩; refine ⟨_, rfl, ?_⟩; replace HO301 := rB_ HO301 hb; replace BK297 := bB_ BK297 hb; replace BK298 := bB_ BK298 hb; replace HB := bS_ HB hb; (try clear hb); (try clear hk)))
   go_meet
   case rel => exact ⟨_, (decide (a1 < 0)), eS_, H', ⟨by first | omega | exact Nat.le_refl _⟩, ⟨rT_ HO301⟩, ⟨bT_ BK297⟩, ⟨bT_ BK298⟩, ⟨sABelo_13⟩⟩
  ·replace c9 := Bool.eq_false_iff.mpr c9
   subst c9
   replace H := ifF_ H; have H' := mk_ H; clear H; have hnb13 := NB297_298.out; have hnc13 := NB298_297.out
   obtain ⟨hcz14_0, hcz14_1, hcz14_2, hcz14_3, hfz14_0, hfz14_1, hfz14_2, hfz14_3⟩ := cf4_ BK297
   go_wp2_with (first | ((with_reducible refine gate_callee (f := 58) rfl ?_); refine gL_ (some 12) Try.func58 #[.agg #[.slice A0_0 l0_0.length c0_0, .slice A0_1 l0_1.length c0_1, .int .i64 a0_2, .slice A0_3 l0_3.length c0_3]] ?_; (with_reducible refine (spec_l24Ok.calls k _ _ l0_0 _ _ l0_1 a0_2 _ _ l0_3 false _ ?side1 ?side2 ?side3 ?side4 ?side5 ?side6 A8.out).mono ?_); (case side1 => exact cB_ HR0_0 HB); (case side2 => exact HC0_0.out); (case side3 => exact cB_ HR0_1 HB); (case side4 => exact HC0_1.out); (case side5 => exact cB_ HR0_3 HB); (case side6 => exact HC0_3.out); rintro e w15 ⟨rfl, hb⟩; refine ⟨_, rfl, ?_⟩; replace HO301 := rB_ HO301 hb; replace BK297 := bB_ BK297 hb; replace BK298 := bB_ BK298 hb; replace HB := bS_ HB hb; (try clear hb); (try clear hk)))
   go_meet
   case rel => exact ⟨_, (true), eS_, H', ⟨by first | omega | exact Nat.le_refl _⟩, ⟨rT_ HO301⟩, ⟨bT_ BK297⟩, ⟨bT_ BK298⟩, ⟨sABelo_13⟩⟩
 case rest =>
  clear HC3
  obtain ⟨kq, x17_2, rfl, HA, HJ2, HO_6, BK297, BK298, HB⟩ := hcut
  cases kq with
  | zero => exact absurd HA.out (by simp [spec_TickRun.j0])
  | succ kj2 =>
   have H := HA.out; clear HA
   simp only [spec_TickRun.j0] at H
   by_cases c16 : x17_2 = true
   ·subst c16
    replace H := ifT_ H
    simp only [Option.some.injEq, Prod.mk.injEq] at H
    obtain ⟨rfl, rfl, rfl, rfl, rfl⟩ := H
    have hnb17 := NB298_297.out; have hnc17 := NB297_298.out
    obtain ⟨hcz18_0, hcz18_1, hcz18_2, hcz18_3, hfz18_0, hfz18_1, hfz18_2, hfz18_3⟩ := cf4_ BK298
    go_wp2
    refine bodyPost_ret (results_ct rfl _ _ gb298 31 #[.slice none 0 0, .slice none 0 0, .int .i64 0, .slice none 0 0] (0, 0) _ rfl (bP_ BK298) Try.underlying31 rfl (by kernel_rfl)) rfl ?_
    exact ⟨_, _, _, _, eW_, by first | exact Kd.S_nil _ _ _ _ _ | exact Kd.N_nil _ _ _ _ _ | exact Kd.V_nil _ _ _ _ _ | exact Kd.Q_nil _ _ _ _ _ | exact Kd.R_nil _ _ _ _ _, by first | exact Kd.R_nil _ _ _ _ _ | exact Kd.N_nil _ _ _ _ _ | exact Kd.V_nil _ _ _ _ _ | exact Kd.Q_nil _ _ _ _ _ | exact Kd.S_nil _ _ _ _ _, by first | exact Kd.R_nil _ _ _ _ _ | exact Kd.N_nil _ _ _ _ _ | exact Kd.V_nil _ _ _ _ _ | exact Kd.Q_nil _ _ _ _ _ | exact Kd.S_nil _ _ _ _ _, by (with_reducible repeat (first | apply Kd.R_alloc | apply Kd.R_drewN | apply Kd.R_drew)); exact Kd.R_mono (Kd.R_far (p := ⟨gb298, 3, none⟩) (Kd.R_far (p := ⟨gb298, 2, none⟩) (Kd.R_far (p := ⟨gb298, 1, none⟩) (Kd.R_far (p := ⟨gb298, 0, none⟩) (Kd.R_types HO_6.out BK298.out (by decide)) (fun _ hk => hk.2) (.slice none 0 0)) (fun _ hk => hk.2) (.slice none 0 0)) (fun _ hk => hk.2) (.int .i64 0)) (fun _ hk => hk.2) (.slice none 0 0)) (fun _ hk => (by simp [Value.ownBlock])), sABelo_13⟩
   ·replace c16 := Bool.eq_false_iff.mpr c16
    subst c16
    replace H := ifF_ H; replace H := Option.bind_eq_some_iff.mp H
    obtain ⟨⟨t303, t306, t309, t310⟩, A190, H⟩ := H
    (try dsimp only at H)
    have A19 := mk_ A190; clear A190
    obtain ⟨ji20, hji20⟩ : ∃ j_ : Int, (mn a1 1000000000000) = j_ := ⟨_, rfl⟩
    replace H : (spec_TickRun.l0 kj2 y299 0 l0_0 l0_1 a0_2 l0_3 t303 t306 (mn (wrap64 (a0_2 + (ji20))) 1000000000000) t310) = some (r1, r2, r3, r4, r5) := by first | (rw [hji20] at H; exact H) | (simp only [hji20] at H ⊢; exact H)
    (try rw [hji20] at A19)
    have hji20_ : (if 1000000000000 < a1 then 1000000000000 else a1) = ji20 := hji20
    obtain ⟨ji21, hji21⟩ : ∃ j_ : Int, (mn (wrap64 (a0_2 + (ji20))) 1000000000000) = j_ := ⟨_, rfl⟩
    replace H : (spec_TickRun.l0 kj2 y299 0 l0_0 l0_1 a0_2 l0_3 t303 t306 ji21 t310) = some (r1, r2, r3, r4, r5) := by first | (rw [hji21] at H; exact H) | (simp only [hji21] at H ⊢; exact H)
    (try rw [hji21] at A19)
    have hji21_ : (if 1000000000000 < (wrap64 (a0_2 + (ji20))) then 1000000000000 else (wrap64 (a0_2 + (ji20)))) = ji21 := hji21
    have H' := mk_ H; clear H; have hnb22 := NB297_298.out; have hnc22 := NB298_297.out
    obtain ⟨hcz23_0, hcz23_1, hcz23_2, hcz23_3, hfz23_0, hfz23_1, hfz23_2, hfz23_3⟩ := cf4_ BK297
    go_wp2_with (first | ((with_reducible refine gate_callee (f := 59) rfl ?_); refine gL_ (some 21) Try.func59 #[.agg #[.slice A0_0 l0_0.length c0_0, .slice A0_1 l0_1.length c0_1, .int .i64 a0_2, .slice A0_3 l0_3.length c0_3]] ?_; (with_reducible refine (spec_l24Copy.calls kj2 _ _ l0_0 _ _ l0_1 a0_2 _ _ l0_3 t303 t306 t309 t310 _ ?side1 ?side2 ?side3 ?side4 ?side5 ?side6 A19.out).mono ?_); (case side1 => exact cB_ HR0_0 HB); (case side2 => exact HC0_0.out); (case side3 => exact cB_ HR0_1 HB); (case side4 => exact HC0_1.out); (case side5 => exact cB_ HR0_3 HB); (case side6 => exact HC0_3.out); rintro e w24 ⟨v304, v307, v311, rfl, ho0, ho1, ho2, hb⟩; refine ⟨_, rfl, ?_⟩; have HO305 := sL_ (Kd.S_new' ho0 (rLt_ HO_6)) HB; have HO308 := rL_ (rN_ ho1 HO_6) HB; replace HO_6 := rE_ HO_6 ho1 hb; have HO312 := rL_ ho2 HB; replace BK297 := bB_ BK297 hb; replace BK298 := bB_ BK298 hb; replace HB := bS_ HB hb; (try clear hb); (try clear hk); (try clear ho0); (try clear ho1); (try clear ho2)) | ((with_reducible refine gate_dst (N := 7) rfl ?_); refine box_event ?hg (N := 7) ?hd (cs := #[.slice none 0 0, .slice none 0 0, .int .i64 0, .slice none 0 0]) (t := 31) ?hr ?_; (case hd => rfl); (case hg => rfl); (case hr => first | (go_simp; done) | (go_simp; rfl)); intro gb313 hg w25 hbox hb; replace HO_6 := rB_ HO_6 hb; replace HO305 := sB_ HO305 hb; replace HO308 := rB_ HO308 hb; replace HO312 := rB_ HO312 hb; have BK313 := mk_ (hbox); have GW313 := gE_ HB hg; have GE313 := gE_ HB hg; replace HB := bS_ HB hb; have NB297_313 := nL_ BK297 hg; have NB313_297 := nG_ BK297 hg; replace BK297 := bB_ BK297 hb; have NB298_313 := nL_ BK298 hg; have NB313_298 := nG_ BK298 hg; replace BK298 := bB_ BK298 hb; clear hb hbox hg; obtain ⟨Ao26, co26, eo26⟩ := Kd.S_slice HO305.out; subst eo26; have hnb27 := NB313_297.out; have hnc27 := NB297_313.out; have hnb28 := NB313_298.out; have hnc28 := NB298_313.out; obtain ⟨hcz29_0, hcz29_1, hcz29_2, hcz29_3, hfz29_0, hfz29_1, hfz29_2, hfz29_3⟩ := cf4_ BK313; obtain ⟨Ao30, co30, eo30⟩ := Kd.R_slice HO308.out; subst eo30; obtain ⟨Ao31, co31, eo31⟩ := Kd.R_slice HO312.out; subst eo31; obtain ⟨hcz32_0, hcz32_1, hcz32_2, hcz32_3, hfz32_0, hfz32_1, hfz32_2, hfz32_3⟩ := cf4_ BK297))
    go_loopg [6, 8] kj2 (fun kq v6 v8 w' => ∃ (x6_2 : List Int) (x8_2 : Int), v8 = .int .i64 x8_2 ∧ Aside0 (spec_TickRun.l0 kq x6_2 x8_2 l0_0 l0_1 a0_2 l0_3 t303 t306 ji21 t310 = some (r1, r2, r3, r4, r5)) ∧ Aside0 (kq ≤ kj2) ∧ Aside0 (Kd.R (Kd.int .i64) 2 w' w.heap.size (fun k_ => some k_ ≠ ((.slice Ao30 t306.length co30) : Value).ownBlock) v6 x6_2) ∧ Aside0 (Kd.S k39 39 w' w.heap.size (fun k_ => some k_ ≠ (v6 : Value).ownBlock ∧ some k_ ≠ ((.slice Ao30 t306.length co30) : Value).ownBlock) (.slice Ao26 t303.length co26) t303) ∧ Aside0 (Kd.R (Kd.int .i64) 2 w' w.heap.size (fun k_ => some k_ ≠ (v6 : Value).ownBlock) (.slice Ao30 t306.length co30) t306) ∧ Aside0 (Kd.R k43 43 w' w.heap.size (fun _ => True) (.slice Ao31 t310.length co31) t310) ∧ Aside0 (w'.heap[gb297]? = some (.cells #[(.slice A0_0 l0_0.length c0_0), (.slice A0_1 l0_1.length c0_1), .int .i64 a0_2, (.slice A0_3 l0_3.length c0_3)] 31 (0, 0))) ∧ Aside0 (w'.heap[gb298]? = some (.cells #[(.slice none 0 0), (.slice none 0 0), .int .i64 0, (.slice none 0 0)] 31 (0, 0))) ∧ Aside0 (w'.heap[gb313]? = some (.cells #[(.slice Ao26 t303.length co26), (.slice Ao30 t306.length co30), .int .i64 ji21, (.slice Ao31 t310.length co31)] 31 (0, 0))) ∧ Aside0 (Below w.heap.size w w'))
    case atStart => exact ⟨(y299), (0), eS_, H', ⟨Nat.le_refl _⟩, ⟨rFM_ HO_6 BK313⟩, ⟨sFM_ HO305 BK313⟩, ⟨rFM_ HO308 BK313⟩, ⟨rFM_ HO312 BK313⟩, ⟨bF_ BK297 NB297_313⟩, ⟨bF_ BK298 NB298_313⟩, ⟨bP_ BK313⟩, ⟨sABelo_13⟩⟩
    case round =>
     clear H'; (try clear c16); (try clear hcz23_0); (try clear hcz23_1); (try clear hcz23_2); (try clear hcz23_3); (try clear hcz29_0); (try clear hcz29_1); (try clear hcz29_2); (try clear hcz29_3); (try clear hcz32_0); (try clear hcz32_1); (try clear hcz32_2); (try clear hcz32_3); (try clear hfz23_0); (try clear hfz23_1); (try clear hfz23_2); (try clear hfz23_3); (try clear hfz29_0); (try clear hfz29_1); (try clear hfz29_2); (try clear hfz29_3); (try clear hfz32_0); (try clear hfz32_1); (try clear hfz32_2); (try clear hfz32_3)
     obtain ⟨x6_2, x8_2, rfl, HA, HK2, HO_6, HO_314000, HO_314001, HO_314003, BK297, BK298, BK313, HB⟩ := hrel
     cases gk with
     | zero => exact absurd HA.out (by simp [spec_TickRun.l0])
     | succ k2 =>
      have H := HA.out; clear HA
      simp only [spec_TickRun.l0] at H
      by_cases c33 : x8_2 < (l0_3.length : Int)
      ·rw [if_pos c33] at H
       have c33b0 := decide_eq_true c33
       clear c33
       obtain ⟨c34, H⟩ := ifS_ H
       have c34b0 : decide (0 ≤ x8_2) = true := decide_eq_true c34
       clear c34
       obtain ⟨c35, H⟩ := ifS_ H
       have c35b0 : decide (x8_2 < (l0_0.length : Int)) = true := decide_eq_true c35
       clear c35
       by_cases c36 : ((rd_T39 l0_0 x8_2).f2) > 0
       ·rw [if_pos c36] at H
        have c36b0 : decide (0 < ((rd_T39 l0_0 x8_2).f2)) = true := decide_eq_true c36
        clear c36
        by_cases c37 : ((rd_T43 l0_3 x8_2).f0) = 2
        ·rw [if_pos c37] at H
         have c37b0 := beq_iff_eq.mpr c37
         have c37b1 := bne_eq_false_iff_eq.mpr c37
         clear c37; have H' := mk_ H; clear H; have hnb38 := NB297_298.out; have hnc38 := NB298_297.out; have hnb39 := NB297_313.out; have hnc39 := NB313_297.out
         obtain ⟨hcz40_0, hcz40_1, hcz40_2, hcz40_3, hfz40_0, hfz40_1, hfz40_2, hfz40_3⟩ := cf4_ BK297
         have p314 : 0 ≤ (x8_2 : Int) := dA_
         have q314 : x8_2 < (l0_0.length : Int) := dA_
         obtain ⟨ad314, A314_0, c314_0, e314, hx314_0, hx314_1, hx314_2, hx314_3, hl314_0, hi314_0⟩ := at_T39 HR0_0.out x8_2 p314 q314
         cases e314
         replace hx314_0 := hX_ HB hx314_0
         replace hx314_1 := hX_ HB hx314_1
         replace hx314_2 := hX_ HB hx314_2
         replace hx314_3 := hX_ HB hx314_3
         have HR314_0 := mk_ hi314_0; have HC314_0 := mk_ hl314_0; clear hi314_0 hl314_0; replace p314 := eq_true p314; replace q314 := eq_true q314
         go_wp2_with (first | ((with_reducible refine gate_dst (N := 9) rfl ?_); refine box_event ?hg (N := 9) ?hd (cs := #[.slice none 0 0, .int .i64 0, .int .i64 0, .int .i64 0]) (t := 39) ?hr ?_; (case hd => rfl); (case hg => rfl); (case hr => first | (go_simp; done) | (go_simp; rfl)); intro gb315 hg w41 hbox hb; replace HO_6 := rB_ HO_6 hb; replace HO_314000 := mk_ (Kd.S_below (Kd.S_elderB (sT_ HO_314000) gb315 (Nat.le_of_eq hg.symm)) hb); replace HO_314001 := rB_ HO_314001 hb; replace HO_314003 := rB_ HO_314003 hb; have BK315 := mk_ (hbox); have GW315 := gE_ HB hg; have GE315 := gE_ HB hg; replace HB := bS_ HB hb; have NB297_315 := nL_ BK297 hg; have NB315_297 := nG_ BK297 hg; replace BK297 := bB_ BK297 hb; have NB298_315 := nL_ BK298 hg; have NB315_298 := nG_ BK298 hg; replace BK298 := bB_ BK298 hb; have NB313_315 := nL_ BK313 hg; have NB315_313 := nG_ BK313 hg; replace BK313 := bB_ BK313 hb; clear hb hbox hg; have hnb42 := NB315_297.out; have hnc42 := NB297_315.out; have hnb43 := NB315_298.out; have hnc43 := NB298_315.out; have hnb44 := NB315_313.out; have hnc44 := NB313_315.out; obtain ⟨hcz45_0, hcz45_1, hcz45_2, hcz45_3, hfz45_0, hfz45_1, hfz45_2, hfz45_3⟩ := cf4_ BK315; obtain ⟨hcz46_0, hcz46_1, hcz46_2, hcz46_3, hfz46_0, hfz46_1, hfz46_2, hfz46_3⟩ := cf4_ BK297; have p316 : 0 ≤ (x8_2 : Int) := dA_; have q316 : x8_2 < (l0_3.length : Int) := dA_; obtain ⟨ad316, e316, hx316_0, hx316_1⟩ := at_T43 HR0_3.out x8_2 p316 q316; cases e316; have hn316_0 : ad316.block ≠ gb315 := bn_ hx316_0 GW315; have hn316_1 : ad316.block ≠ gb315 := bn_ hx316_0 GW315; have hn316_2 : ad316.block ≠ gb315 := bn_ hx316_0 GW315; have hn316_3 : ad316.block ≠ gb315 := bn_ hx316_0 GW315; replace hx316_0 := hX_ HB hx316_0; replace hx316_1 := hX_ HB hx316_1; replace hx316_0 := cFr_ hx316_0 ⟨gb315, 0, none⟩ (.slice A314_0 ((rd_T39 l0_0 x8_2).f0).length c314_0) hn316_0; replace hx316_1 := cFr_ hx316_1 ⟨gb315, 0, none⟩ (.slice A314_0 ((rd_T39 l0_0 x8_2).f0).length c314_0) hn316_0; replace hx316_0 := cFr_ hx316_0 ⟨gb315, 1, none⟩ (.int .i64 ((rd_T39 l0_0 x8_2).f1)) hn316_1; replace hx316_1 := cFr_ hx316_1 ⟨gb315, 1, none⟩ (.int .i64 ((rd_T39 l0_0 x8_2).f1)) hn316_1; replace hx316_0 := cFr_ hx316_0 ⟨gb315, 2, none⟩ (.int .i64 ((rd_T39 l0_0 x8_2).f2)) hn316_2; replace hx316_1 := cFr_ hx316_1 ⟨gb315, 2, none⟩ (.int .i64 ((rd_T39 l0_0 x8_2).f2)) hn316_2; replace hx316_0 := cFr_ hx316_0 ⟨gb315, 3, none⟩ (.int .i64 ((rd_T39 l0_0 x8_2).f3)) hn316_3; replace hx316_1 := cFr_ hx316_1 ⟨gb315, 3, none⟩ (.int .i64 ((rd_T39 l0_0 x8_2).f3)) hn316_3; clear hn316_0; clear hn316_1; clear hn316_2; clear hn316_3; replace p316 := eq_true p316; replace q316 := eq_true q316))
         go_roundg k2
         case measure => have := HJ2.out; have := HK2.out; omega
         case rel => exact ⟨(x6_2), (wrap64 (x8_2 + 1)), eS_, H', ⟨by have := HJ2.out; have := HK2.out; omega⟩, ⟨rFM_ HO_6 BK315⟩, ⟨sFN_ HO_314000⟩, ⟨rFM_ HO_314001 BK315⟩, ⟨rFM_ HO_314003 BK315⟩, ⟨bF_ BK297 NB297_315⟩, ⟨bF_ BK298 NB298_315⟩, ⟨bF_ BK313 NB313_315⟩, ⟨sABelo_13⟩⟩
        ·rw [if_neg c37] at H
         have c37b0 := beq_eq_false_iff_ne.mpr c37
         have c37b1 := bne_iff_ne.mpr c37
         by_cases c47 : ((rd_T39 l0_0 x8_2).f2) ≥ a0_2
         ·rw [if_pos c47] at H
          have c47b0 : decide (a0_2 ≤ ((rd_T39 l0_0 x8_2).f2)) = true := decide_eq_true c47
          clear c47
          by_cases c48 : ((rd_T39 l0_0 x8_2).f2) < ji21
          ·rw [if_pos c48] at H
           have c48b0 := decide_eq_true c48
           clear c48
           obtain ⟨c49, H⟩ := ifS_ H
           have LMc49 := mk_ c49; clear c49
           obtain ⟨y317, hy317⟩ : ∃ y_ : List Int, y_ = (x6_2 ++ [wrap64 (x8_2 + 1)]) := ⟨_, rfl⟩
           replace H : (spec_TickRun.l0 k2 y317 (wrap64 (x8_2 + 1)) l0_0 l0_1 a0_2 l0_3 t303 t306 ji21 t310) = some (r1, r2, r3, r4, r5) := by first | (rw [hy317]; with_reducible exact H) | (have H2_ := (Option.bind_some _ _).symm.trans H; rw [hy317]; with_reducible exact H2_) | (have H2_ := (Option.bind_some _ _).symm.trans H; with_reducible exact H2_) | with_reducible exact H | (rw [hy317]; exact H) | exact H
           have Ny317 := mk_ hy317; clear hy317; have H' := mk_ H; clear H; have hnb50 := NB297_298.out; have hnc50 := NB298_297.out; have hnb51 := NB297_313.out; have hnc51 := NB313_297.out
           obtain ⟨hcz52_0, hcz52_1, hcz52_2, hcz52_3, hfz52_0, hfz52_1, hfz52_2, hfz52_3⟩ := cf4_ BK297
           have p314 : 0 ≤ (x8_2 : Int) := dA_
           have q314 : x8_2 < (l0_0.length : Int) := dA_
           obtain ⟨ad314, A314_0, c314_0, e314, hx314_0, hx314_1, hx314_2, hx314_3, hl314_0, hi314_0⟩ := at_T39 HR0_0.out x8_2 p314 q314
           cases e314
           replace hx314_0 := hX_ HB hx314_0
           replace hx314_1 := hX_ HB hx314_1
           replace hx314_2 := hX_ HB hx314_2
           replace hx314_3 := hX_ HB hx314_3
           have HR314_0 := mk_ hi314_0; have HC314_0 := mk_ hl314_0; clear hi314_0 hl314_0; replace p314 := eq_true p314; replace q314 := eq_true q314
           go_wp2_with (first | ((with_reducible refine gate_dst (N := 9) rfl ?_); refine box_event ?hg (N := 9) ?hd (cs := #[.slice none 0 0, .int .i64 0, .int .i64 0, .int .i64 0]) (t := 39) ?hr ?_; (case hd => rfl); (case hg => rfl); (case hr => first | (go_simp; done) | (go_simp; rfl)); intro gb315 hg w53 hbox hb; replace HO_6 := rB_ HO_6 hb; replace HO_314000 := mk_ (Kd.S_below (Kd.S_elderB (sT_ HO_314000) gb315 (Nat.le_of_eq hg.symm)) hb); replace HO_314001 := rB_ HO_314001 hb; replace HO_314003 := rB_ HO_314003 hb; have BK315 := mk_ (hbox); have GW315 := gE_ HB hg; have GE315 := gE_ HB hg; replace HB := bS_ HB hb; have NB297_315 := nL_ BK297 hg; have NB315_297 := nG_ BK297 hg; replace BK297 := bB_ BK297 hb; have NB298_315 := nL_ BK298 hg; have NB315_298 := nG_ BK298 hg; replace BK298 := bB_ BK298 hb; have NB313_315 := nL_ BK313 hg; have NB315_313 := nG_ BK313 hg; replace BK313 := bB_ BK313 hb; clear hb hbox hg; have hnb54 := NB315_297.out; have hnc54 := NB297_315.out; have hnb55 := NB315_298.out; have hnc55 := NB298_315.out; have hnb56 := NB315_313.out; have hnc56 := NB313_315.out; obtain ⟨hcz57_0, hcz57_1, hcz57_2, hcz57_3, hfz57_0, hfz57_1, hfz57_2, hfz57_3⟩ := cf4_ BK315; obtain ⟨hcz58_0, hcz58_1, hcz58_2, hcz58_3, hfz58_0, hfz58_1, hfz58_2, hfz58_3⟩ := cf4_ BK297; have p316 : 0 ≤ (x8_2 : Int) := dA_; have q316 : x8_2 < (l0_3.length : Int) := dA_; obtain ⟨ad316, e316, hx316_0, hx316_1⟩ := at_T43 HR0_3.out x8_2 p316 q316; cases e316; have hn316_0 : ad316.block ≠ gb315 := bn_ hx316_0 GW315; have hn316_1 : ad316.block ≠ gb315 := bn_ hx316_0 GW315; have hn316_2 : ad316.block ≠ gb315 := bn_ hx316_0 GW315; have hn316_3 : ad316.block ≠ gb315 := bn_ hx316_0 GW315; replace hx316_0 := hX_ HB hx316_0; replace hx316_1 := hX_ HB hx316_1; replace hx316_0 := cFr_ hx316_0 ⟨gb315, 0, none⟩ (.slice A314_0 ((rd_T39 l0_0 x8_2).f0).length c314_0) hn316_0; replace hx316_1 := cFr_ hx316_1 ⟨gb315, 0, none⟩ (.slice A314_0 ((rd_T39 l0_0 x8_2).f0).length c314_0) hn316_0; replace hx316_0 := cFr_ hx316_0 ⟨gb315, 1, none⟩ (.int .i64 ((rd_T39 l0_0 x8_2).f1)) hn316_1; replace hx316_1 := cFr_ hx316_1 ⟨gb315, 1, none⟩ (.int .i64 ((rd_T39 l0_0 x8_2).f1)) hn316_1; replace hx316_0 := cFr_ hx316_0 ⟨gb315, 2, none⟩ (.int .i64 ((rd_T39 l0_0 x8_2).f2)) hn316_2; replace hx316_1 := cFr_ hx316_1 ⟨gb315, 2, none⟩ (.int .i64 ((rd_T39 l0_0 x8_2).f2)) hn316_2; replace hx316_0 := cFr_ hx316_0 ⟨gb315, 3, none⟩ (.int .i64 ((rd_T39 l0_0 x8_2).f3)) hn316_3; replace hx316_1 := cFr_ hx316_1 ⟨gb315, 3, none⟩ (.int .i64 ((rd_T39 l0_0 x8_2).f3)) hn316_3; clear hn316_0; clear hn316_1; clear hn316_2; clear hn316_3; replace p316 := eq_true p316; replace q316 := eq_true q316; have hnb59 := NB313_298.out; have hnc59 := NB298_313.out; obtain ⟨hcz60_0, hcz60_1, hcz60_2, hcz60_3, hfz60_0, hfz60_1, hfz60_2, hfz60_3⟩ := cf4_ BK313) | ((with_reducible refine gate_builtin (b := .append) (xs := #[.tmp 68, .tmp 71]) rfl ?_); at_builtin; refine Kd.R_append (Kd.int .i64) (w0 := w) w.heap.size rfl (.tmp 68) (.tmp 71) 25 2 (.int .i64 0) 8 rfl Try.underlying25 info2 rfl (by decide) (by omega) u6 x6_2 (wrap64 (x8_2 + 1)) [.int .i64 (wrap64 (x8_2 + 1))] (fun k_ => some k_ ≠ (.slice Ao30 t306.length co30 : Value).ownBlock) (fun _ => False) rfl (by first | (go_simp; done) | (go_simp; rfl)) ?aP (fun _ hk => hk.elim) ?aF ?aO ?aB ?aS ?aL ?_; (case aP => exact rfl); (case aB => exact sABelo_13); (case aF => exact (fun k_ hk => Kd.fresh' (rLt_ HO_314001) k_ hk)); (case aO => exact (rF_ HO_6 BK315)); (case aS => exact (below_size sABelo_13)); (case aL => have := LMc49.out; omega); intro v318 w61 ho hb hg hat; rw [← Ny317.out] at ho; replace HO_314000 := mk_ (Kd.S_after (ok := (fun k_ => some k_ ≠ (.slice Ao30 t306.length co30 : Value).ownBlock ∧ k_ ≠ gb315)) (by (with_reducible repeat (first | apply Kd.S_alloc | apply Kd.S_drewN | apply Kd.S_drew)); exact Kd.S_mono (Kd.S_far (p := ⟨gb315, 3, none⟩) (Kd.S_far (p := ⟨gb315, 2, none⟩) (Kd.S_far (p := ⟨gb315, 1, none⟩) (Kd.S_far (p := ⟨gb315, 0, none⟩) (Kd.S_mono HO_314000.out (fun k_ hk => (⟨hk, hk.2⟩ : _ ∧ k_ ≠ gb315))) (fun _ hk => hk.2) (.slice A314_0 ((rd_T39 l0_0 x8_2).f0).length c314_0)) (fun _ hk => hk.2) (.int .i64 ((rd_T39 l0_0 x8_2).f1))) (fun _ hk => hk.2) (.int .i64 ((rd_T39 l0_0 x8_2).f2))) (fun _ hk => hk.2) (.int .i64 ((rd_T39 l0_0 x8_2).f3))) (fun _ hk => ⟨⟨hk.1.1.2, hk.1.2⟩, hk.1.1.1⟩)) hg hat); replace HO_314001 := mk_ (Kd.R_after (ok := (fun _ => True)) (by (with_reducible repeat (first | apply Kd.R_alloc | apply Kd.R_drewN | apply Kd.R_drew)); exact Kd.R_mono (Kd.R_far (p := ⟨gb315, 3, none⟩) (Kd.R_far (p := ⟨gb315, 2, none⟩) (Kd.R_far (p := ⟨gb315, 1, none⟩) (Kd.R_far (p := ⟨gb315, 0, none⟩) (Kd.R_types HO_314001.out BK315.out (by decide)) (fun _ hk => hk.2) (.slice A314_0 ((rd_T39 l0_0 x8_2).f0).length c314_0)) (fun _ hk => hk.2) (.int .i64 ((rd_T39 l0_0 x8_2).f1))) (fun _ hk => hk.2) (.int .i64 ((rd_T39 l0_0 x8_2).f2))) (fun _ hk => hk.2) (.int .i64 ((rd_T39 l0_0 x8_2).f3))) (fun _ hk => ⟨trivial, hk.1⟩)) hg hat); replace HO_314003 := mk_ (Kd.R_over' (rF_ HO_314003 BK315) (Kd.R_typed (rF_ HO_6 BK315)) (by decide) hg); replace BK297 := mk_ (blk_grown (bF_ BK297 NB297_315) hg (Kd.R_ne HO_6.out BK297.out (by decide))); replace BK298 := mk_ (blk_grown (bF_ BK298 NB298_315) hg (Kd.R_ne HO_6.out BK298.out (by decide))); replace BK313 := mk_ (blk_grown (bF_ BK313 NB313_315) hg (Kd.R_ne HO_6.out BK313.out (by decide))); replace BK315 := mk_ (blk_grown (bP_ BK315) hg (Kd.R_ne HO_6.out BK315.out (by decide))); replace HB := mk_ (hb); have HO319 := mk_ (ho); clear HO_6; clear ho hb hg hat))
           go_roundg k2
           case measure => have := HJ2.out; have := HK2.out; omega
           case rel => exact ⟨(y317), (wrap64 (x8_2 + 1)), eS_, H', ⟨by have := HJ2.out; have := HK2.out; omega⟩, ⟨rT_ HO319⟩, ⟨sM2_ HO_314000⟩, ⟨rM2_ HO_314001⟩, ⟨rT_ HO_314003⟩, ⟨bT_ BK297⟩, ⟨bT_ BK298⟩, ⟨bT_ BK313⟩, ⟨sABelo_13⟩⟩
          ·rw [if_neg c48] at H
           have c48b0 := decide_eq_false c48
           clear c48; have H' := mk_ H; clear H; have hnb62 := NB297_298.out; have hnc62 := NB298_297.out; have hnb63 := NB297_313.out; have hnc63 := NB313_297.out
           obtain ⟨hcz64_0, hcz64_1, hcz64_2, hcz64_3, hfz64_0, hfz64_1, hfz64_2, hfz64_3⟩ := cf4_ BK297
           have p314 : 0 ≤ (x8_2 : Int) := dA_
           have q314 : x8_2 < (l0_0.length : Int) := dA_
           obtain ⟨ad314, A314_0, c314_0, e314, hx314_0, hx314_1, hx314_2, hx314_3, hl314_0, hi314_0⟩ := at_T39 HR0_0.out x8_2 p314 q314
           cases e314
           replace hx314_0 := hX_ HB hx314_0
           replace hx314_1 := hX_ HB hx314_1
           replace hx314_2 := hX_ HB hx314_2
           replace hx314_3 := hX_ HB hx314_3
           have HR314_0 := mk_ hi314_0; have HC314_0 := mk_ hl314_0; clear hi314_0 hl314_0; replace p314 := eq_true p314; replace q314 := eq_true q314
           go_wp2_with (first | ((with_reducible refine gate_dst (N := 9) rfl ?_); refine box_event ?hg (N := 9) ?hd (cs := #[.slice none 0 0, .int .i64 0, .int .i64 0, .int .i64 0]) (t := 39) ?hr ?_; (case hd => rfl); (case hg => rfl); (case hr => first | (go_simp; done) | (go_simp; rfl)); intro gb315 hg w65 hbox hb; replace HO_6 := rB_ HO_6 hb; replace HO_314000 := mk_ (Kd.S_below (Kd.S_elderB (sT_ HO_314000) gb315 (Nat.le_of_eq hg.symm)) hb); replace HO_314001 := rB_ HO_314001 hb; replace HO_314003 := rB_ HO_314003 hb; have BK315 := mk_ (hbox); have GW315 := gE_ HB hg; have GE315 := gE_ HB hg; replace HB := bS_ HB hb; have NB297_315 := nL_ BK297 hg; have NB315_297 := nG_ BK297 hg; replace BK297 := bB_ BK297 hb; have NB298_315 := nL_ BK298 hg; have NB315_298 := nG_ BK298 hg; replace BK298 := bB_ BK298 hb; have NB313_315 := nL_ BK313 hg; have NB315_313 := nG_ BK313 hg; replace BK313 := bB_ BK313 hb; clear hb hbox hg; have hnb66 := NB315_297.out; have hnc66 := NB297_315.out; have hnb67 := NB315_298.out; have hnc67 := NB298_315.out; have hnb68 := NB315_313.out; have hnc68 := NB313_315.out; obtain ⟨hcz69_0, hcz69_1, hcz69_2, hcz69_3, hfz69_0, hfz69_1, hfz69_2, hfz69_3⟩ := cf4_ BK315; obtain ⟨hcz70_0, hcz70_1, hcz70_2, hcz70_3, hfz70_0, hfz70_1, hfz70_2, hfz70_3⟩ := cf4_ BK297; have p316 : 0 ≤ (x8_2 : Int) := dA_; have q316 : x8_2 < (l0_3.length : Int) := dA_; obtain ⟨ad316, e316, hx316_0, hx316_1⟩ := at_T43 HR0_3.out x8_2 p316 q316; cases e316; have hn316_0 : ad316.block ≠ gb315 := bn_ hx316_0 GW315; have hn316_1 : ad316.block ≠ gb315 := bn_ hx316_0 GW315; have hn316_2 : ad316.block ≠ gb315 := bn_ hx316_0 GW315; have hn316_3 : ad316.block ≠ gb315 := bn_ hx316_0 GW315; replace hx316_0 := hX_ HB hx316_0; replace hx316_1 := hX_ HB hx316_1; replace hx316_0 := cFr_ hx316_0 ⟨gb315, 0, none⟩ (.slice A314_0 ((rd_T39 l0_0 x8_2).f0).length c314_0) hn316_0; replace hx316_1 := cFr_ hx316_1 ⟨gb315, 0, none⟩ (.slice A314_0 ((rd_T39 l0_0 x8_2).f0).length c314_0) hn316_0; replace hx316_0 := cFr_ hx316_0 ⟨gb315, 1, none⟩ (.int .i64 ((rd_T39 l0_0 x8_2).f1)) hn316_1; replace hx316_1 := cFr_ hx316_1 ⟨gb315, 1, none⟩ (.int .i64 ((rd_T39 l0_0 x8_2).f1)) hn316_1; replace hx316_0 := cFr_ hx316_0 ⟨gb315, 2, none⟩ (.int .i64 ((rd_T39 l0_0 x8_2).f2)) hn316_2; replace hx316_1 := cFr_ hx316_1 ⟨gb315, 2, none⟩ (.int .i64 ((rd_T39 l0_0 x8_2).f2)) hn316_2; replace hx316_0 := cFr_ hx316_0 ⟨gb315, 3, none⟩ (.int .i64 ((rd_T39 l0_0 x8_2).f3)) hn316_3; replace hx316_1 := cFr_ hx316_1 ⟨gb315, 3, none⟩ (.int .i64 ((rd_T39 l0_0 x8_2).f3)) hn316_3; clear hn316_0; clear hn316_1; clear hn316_2; clear hn316_3; replace p316 := eq_true p316; replace q316 := eq_true q316; have hnb71 := NB313_298.out; have hnc71 := NB298_313.out; obtain ⟨hcz72_0, hcz72_1, hcz72_2, hcz72_3, hfz72_0, hfz72_1, hfz72_2, hfz72_3⟩ := cf4_ BK313))
           go_roundg k2
           case measure => have := HJ2.out; have := HK2.out; omega
           case rel => exact ⟨(x6_2), (wrap64 (x8_2 + 1)), eS_, H', ⟨by have := HJ2.out; have := HK2.out; omega⟩, ⟨rFM_ HO_6 BK315⟩, ⟨sFN_ HO_314000⟩, ⟨rFM_ HO_314001 BK315⟩, ⟨rFM_ HO_314003 BK315⟩, ⟨bF_ BK297 NB297_315⟩, ⟨bF_ BK298 NB298_315⟩, ⟨bF_ BK313 NB313_315⟩, ⟨sABelo_13⟩⟩
         ·rw [if_neg c47] at H
          have c47b0 : decide (a0_2 ≤ ((rd_T39 l0_0 x8_2).f2)) = false := decide_eq_false c47
          clear c47; have H' := mk_ H; clear H; have hnb73 := NB297_298.out; have hnc73 := NB298_297.out; have hnb74 := NB297_313.out; have hnc74 := NB313_297.out
          obtain ⟨hcz75_0, hcz75_1, hcz75_2, hcz75_3, hfz75_0, hfz75_1, hfz75_2, hfz75_3⟩ := cf4_ BK297
          have p314 : 0 ≤ (x8_2 : Int) := dA_
          have q314 : x8_2 < (l0_0.length : Int) := dA_
          obtain ⟨ad314, A314_0, c314_0, e314, hx314_0, hx314_1, hx314_2, hx314_3, hl314_0, hi314_0⟩ := at_T39 HR0_0.out x8_2 p314 q314
          cases e314
          replace hx314_0 := hX_ HB hx314_0
          replace hx314_1 := hX_ HB hx314_1
          replace hx314_2 := hX_ HB hx314_2
          replace hx314_3 := hX_ HB hx314_3
          have HR314_0 := mk_ hi314_0; have HC314_0 := mk_ hl314_0; clear hi314_0 hl314_0; replace p314 := eq_true p314; replace q314 := eq_true q314
          go_wp2_with (first | ((with_reducible refine gate_dst (N := 9) rfl ?_); refine box_event ?hg (N := 9) ?hd (cs := #[.slice none 0 0, .int .i64 0, .int .i64 0, .int .i64 0]) (t := 39) ?hr ?_; (case hd => rfl); (case hg => rfl); (case hr => first | (go_simp; done) | (go_simp; rfl)); intro gb315 hg w76 hbox hb; replace HO_6 := rB_ HO_6 hb; replace HO_314000 := mk_ (Kd.S_below (Kd.S_elderB (sT_ HO_314000) gb315 (Nat.le_of_eq hg.symm)) hb); replace HO_314001 := rB_ HO_314001 hb; replace HO_314003 := rB_ HO_314003 hb; have BK315 := mk_ (hbox); have GW315 := gE_ HB hg; have GE315 := gE_ HB hg; replace HB := bS_ HB hb; have NB297_315 := nL_ BK297 hg; have NB315_297 := nG_ BK297 hg; replace BK297 := bB_ BK297 hb; have NB298_315 := nL_ BK298 hg; have NB315_298 := nG_ BK298 hg; replace BK298 := bB_ BK298 hb; have NB313_315 := nL_ BK313 hg; have NB315_313 := nG_ BK313 hg; replace BK313 := bB_ BK313 hb; clear hb hbox hg; have hnb77 := NB315_297.out; have hnc77 := NB297_315.out; have hnb78 := NB315_298.out; have hnc78 := NB298_315.out; have hnb79 := NB315_313.out; have hnc79 := NB313_315.out; obtain ⟨hcz80_0, hcz80_1, hcz80_2, hcz80_3, hfz80_0, hfz80_1, hfz80_2, hfz80_3⟩ := cf4_ BK315; obtain ⟨hcz81_0, hcz81_1, hcz81_2, hcz81_3, hfz81_0, hfz81_1, hfz81_2, hfz81_3⟩ := cf4_ BK297; have p316 : 0 ≤ (x8_2 : Int) := dA_; have q316 : x8_2 < (l0_3.length : Int) := dA_; obtain ⟨ad316, e316, hx316_0, hx316_1⟩ := at_T43 HR0_3.out x8_2 p316 q316; cases e316; have hn316_0 : ad316.block ≠ gb315 := bn_ hx316_0 GW315; have hn316_1 : ad316.block ≠ gb315 := bn_ hx316_0 GW315; have hn316_2 : ad316.block ≠ gb315 := bn_ hx316_0 GW315; have hn316_3 : ad316.block ≠ gb315 := bn_ hx316_0 GW315; replace hx316_0 := hX_ HB hx316_0; replace hx316_1 := hX_ HB hx316_1; replace hx316_0 := cFr_ hx316_0 ⟨gb315, 0, none⟩ (.slice A314_0 ((rd_T39 l0_0 x8_2).f0).length c314_0) hn316_0; replace hx316_1 := cFr_ hx316_1 ⟨gb315, 0, none⟩ (.slice A314_0 ((rd_T39 l0_0 x8_2).f0).length c314_0) hn316_0; replace hx316_0 := cFr_ hx316_0 ⟨gb315, 1, none⟩ (.int .i64 ((rd_T39 l0_0 x8_2).f1)) hn316_1; replace hx316_1 := cFr_ hx316_1 ⟨gb315, 1, none⟩ (.int .i64 ((rd_T39 l0_0 x8_2).f1)) hn316_1; replace hx316_0 := cFr_ hx316_0 ⟨gb315, 2, none⟩ (.int .i64 ((rd_T39 l0_0 x8_2).f2)) hn316_2; replace hx316_1 := cFr_ hx316_1 ⟨gb315, 2, none⟩ (.int .i64 ((rd_T39 l0_0 x8_2).f2)) hn316_2; replace hx316_0 := cFr_ hx316_0 ⟨gb315, 3, none⟩ (.int .i64 ((rd_T39 l0_0 x8_2).f3)) hn316_3; replace hx316_1 := cFr_ hx316_1 ⟨gb315, 3, none⟩ (.int .i64 ((rd_T39 l0_0 x8_2).f3)) hn316_3; clear hn316_0; clear hn316_1; clear hn316_2; clear hn316_3; replace p316 := eq_true p316; replace q316 := eq_true q316))
          go_roundg k2
          case measure => have := HJ2.out; have := HK2.out; omega
          case rel => exact ⟨(x6_2), (wrap64 (x8_2 + 1)), eS_, H', ⟨by have := HJ2.out; have := HK2.out; omega⟩, ⟨rFM_ HO_6 BK315⟩, ⟨sFN_ HO_314000⟩, ⟨rFM_ HO_314001 BK315⟩, ⟨rFM_ HO_314003 BK315⟩, ⟨bF_ BK297 NB297_315⟩, ⟨bF_ BK298 NB298_315⟩, ⟨bF_ BK313 NB313_315⟩, ⟨sABelo_13⟩⟩
       ·rw [if_neg c36] at H
        have c36b0 : decide (0 < ((rd_T39 l0_0 x8_2).f2)) = false := decide_eq_false c36
        clear c36; have H' := mk_ H; clear H; have hnb82 := NB297_298.out; have hnc82 := NB298_297.out; have hnb83 := NB297_313.out; have hnc83 := NB313_297.out
        obtain ⟨hcz84_0, hcz84_1, hcz84_2, hcz84_3, hfz84_0, hfz84_1, hfz84_2, hfz84_3⟩ := cf4_ BK297
        have p314 : 0 ≤ (x8_2 : Int) := dA_
        have q314 : x8_2 < (l0_0.length : Int) := dA_
        obtain ⟨ad314, A314_0, c314_0, e314, hx314_0, hx314_1, hx314_2, hx314_3, hl314_0, hi314_0⟩ := at_T39 HR0_0.out x8_2 p314 q314
        cases e314
        replace hx314_0 := hX_ HB hx314_0
        replace hx314_1 := hX_ HB hx314_1
        replace hx314_2 := hX_ HB hx314_2
        replace hx314_3 := hX_ HB hx314_3
        have HR314_0 := mk_ hi314_0; have HC314_0 := mk_ hl314_0; clear hi314_0 hl314_0; replace p314 := eq_true p314; replace q314 := eq_true q314
        go_wp2_with (first | ((with_reducible refine gate_dst (N := 9) rfl ?_); refine box_event ?hg (N := 9) ?hd (cs := #[.slice none 0 0, .int .i64 0, .int .i64 0, .int .i64 0]) (t := 39) ?hr ?_; (case hd => rfl); (case hg => rfl); (case hr => first | (go_simp; done) | (go_simp; rfl)); intro gb315 hg w85 hbox hb; replace HO_6 := rB_ HO_6 hb; replace HO_314000 := mk_ (Kd.S_below (Kd.S_elderB (sT_ HO_314000) gb315 (Nat.le_of_eq hg.symm)) hb); replace HO_314001 := rB_ HO_314001 hb; replace HO_314003 := rB_ HO_314003 hb; have BK315 := mk_ (hbox); have GW315 := gE_ HB hg; have GE315 := gE_ HB hg; replace HB := bS_ HB hb; have NB297_315 := nL_ BK297 hg; have NB315_297 := nG_ BK297 hg; replace BK297 := bB_ BK297 hb; have NB298_315 := nL_ BK298 hg; have NB315_298 := nG_ BK298 hg; replace BK298 := bB_ BK298 hb; have NB313_315 := nL_ BK313 hg; have NB315_313 := nG_ BK313 hg; replace BK313 := bB_ BK313 hb; clear hb hbox hg; have hnb86 := NB315_297.out; have hnc86 := NB297_315.out; have hnb87 := NB315_298.out; have hnc87 := NB298_315.out; have hnb88 := NB315_313.out; have hnc88 := NB313_315.out; obtain ⟨hcz89_0, hcz89_1, hcz89_2, hcz89_3, hfz89_0, hfz89_1, hfz89_2, hfz89_3⟩ := cf4_ BK315))
        go_roundg k2
        case measure => have := HJ2.out; have := HK2.out; omega
        case rel => exact ⟨(x6_2), (wrap64 (x8_2 + 1)), eS_, H', ⟨by have := HJ2.out; have := HK2.out; omega⟩, ⟨rFM_ HO_6 BK315⟩, ⟨sFN_ HO_314000⟩, ⟨rFM_ HO_314001 BK315⟩, ⟨rFM_ HO_314003 BK315⟩, ⟨bF_ BK297 NB297_315⟩, ⟨bF_ BK298 NB298_315⟩, ⟨bF_ BK313 NB313_315⟩, ⟨sABelo_13⟩⟩
      ·rw [if_neg c33] at H
       have c33b0 := decide_eq_false c33
       clear c33
       simp only [Option.some.injEq, Prod.mk.injEq] at H
       obtain ⟨rfl, rfl, rfl, rfl, rfl⟩ := H
       have hnb90 := NB297_298.out; have hnc90 := NB298_297.out; have hnb91 := NB297_313.out; have hnc91 := NB313_297.out
       obtain ⟨hcz92_0, hcz92_1, hcz92_2, hcz92_3, hfz92_0, hfz92_1, hfz92_2, hfz92_3⟩ := cf4_ BK297; have hnb93 := NB313_298.out; have hnc93 := NB298_313.out
       obtain ⟨hcz94_0, hcz94_1, hcz94_2, hcz94_3, hfz94_0, hfz94_1, hfz94_2, hfz94_3⟩ := cf4_ BK313
       obtain ⟨hcz95_0, hcz95_1, hcz95_2, hcz95_3, hfz95_0, hfz95_1, hfz95_2, hfz95_3⟩ := cf4_ BK298
       go_wp2
       refine bodyPost_ret (results_ct rfl _ _ gb298 31 #[.slice Ao26 t303.length co26, .slice Ao30 t306.length co30, .int .i64 ji21, .slice Ao31 t310.length co31] (0, 0) _ rfl (bP_ BK298) Try.underlying31 rfl (by kernel_rfl)) rfl ?_
       exact ⟨_, _, _, _, by first | rfl | (simp [errW_none, errW_some] <;> rfl) | (simp only [← hji20, ← hji21]; first | rfl | (simp [errW_none, errW_some] <;> rfl)) | (simp [*, errW_none, errW_some] <;> rfl), by (with_reducible repeat (first | apply Kd.S_alloc | apply Kd.S_drewN | apply Kd.S_drew)); exact Kd.S_mono (Kd.S_far (p := ⟨gb298, 3, none⟩) (Kd.S_far (p := ⟨gb298, 2, none⟩) (Kd.S_far (p := ⟨gb298, 1, none⟩) (Kd.S_far (p := ⟨gb298, 0, none⟩) (Kd.S_types HO_314000.out BK298.out (by decide)) (fun _ hk => hk.2) (.slice Ao26 t303.length co26)) (fun _ hk => hk.2) (.slice Ao30 t306.length co30)) (fun _ hk => hk.2) (.int .i64 ji21)) (fun _ hk => hk.2) (.slice Ao31 t310.length co31)) (fun _ hk => ⟨hk.1.2, hk.1.1⟩), by (with_reducible repeat (first | apply Kd.R_alloc | apply Kd.R_drewN | apply Kd.R_drew)); exact Kd.R_mono (Kd.R_far (p := ⟨gb298, 3, none⟩) (Kd.R_far (p := ⟨gb298, 2, none⟩) (Kd.R_far (p := ⟨gb298, 1, none⟩) (Kd.R_far (p := ⟨gb298, 0, none⟩) (Kd.R_types HO_314001.out BK298.out (by decide)) (fun _ hk => hk.2) (.slice Ao26 t303.length co26)) (fun _ hk => hk.2) (.slice Ao30 t306.length co30)) (fun _ hk => hk.2) (.int .i64 ji21)) (fun _ hk => hk.2) (.slice Ao31 t310.length co31)) (fun _ hk => hk.1), by (with_reducible repeat (first | apply Kd.R_alloc | apply Kd.R_drewN | apply Kd.R_drew)); exact Kd.R_mono (Kd.R_far (p := ⟨gb298, 3, none⟩) (Kd.R_far (p := ⟨gb298, 2, none⟩) (Kd.R_far (p := ⟨gb298, 1, none⟩) (Kd.R_far (p := ⟨gb298, 0, none⟩) (Kd.R_types HO_314003.out BK298.out (by decide)) (fun _ hk => hk.2) (.slice Ao26 t303.length co26)) (fun _ hk => hk.2) (.slice Ao30 t306.length co30)) (fun _ hk => hk.2) (.int .i64 ji21)) (fun _ hk => hk.2) (.slice Ao31 t310.length co31)) (fun _ hk => trivial), by (with_reducible repeat (first | apply Kd.R_alloc | apply Kd.R_drewN | apply Kd.R_drew)); exact Kd.R_mono (Kd.R_far (p := ⟨gb298, 3, none⟩) (Kd.R_far (p := ⟨gb298, 2, none⟩) (Kd.R_far (p := ⟨gb298, 1, none⟩) (Kd.R_far (p := ⟨gb298, 0, none⟩) (Kd.R_types HO_6.out BK298.out (by decide)) (fun _ hk => hk.2) (.slice Ao26 t303.length co26)) (fun _ hk => hk.2) (.slice Ao30 t306.length co30)) (fun _ hk => hk.2) (.int .i64 ji21)) (fun _ hk => hk.2) (.slice Ao31 t310.length co31)) (fun _ hk => hk.1), sABelo_13⟩

end Go.Proofs.Ytjoghfehmhapbaa.QFnReportsAnyway
