-- Written by a program of this session out of the printer's texts and contracts of its own.
import Derived.Test.YtjoghfehmhapbaaSq
import Derived.Test.YtjoghfehmhapbaaQFnLateOncex0
import Derived.Test.YtjoghfehmhapbaaQFnLateOncex6
import Derived.Test.YtjoghfehmhapbaaQFnLateOncex7
namespace Go.Proofs.Ytjoghfehmhapbaa.QFnLateOnce
open Go.RowKit Go.Proofs.YtjoghfehmhapbaaW.PrintWords Go.Proofs.YtjoghfehmhapbaaW.PrintLast Go.Proofs.YtjoghfehmhapbaaW.PrintMore Go.Proofs.Ytjoghfehmhapbaa.Sq
attribute [local go_sem] max2_int min2_int max_two min_two max_three min_three max_four min_four   -- for this text's walks alone
set_option linter.unusedVariables false
set_option linter.unusedSimpArgs false
theorem sABelo_8 {b : Nat} {w W : World} (h : Below b w W := by repeat (first | (with_reducible first | exact Aside0.out (by assumption) | apply below_alloc | apply pw_below_drewN | apply below_drew1 | refine below_set ?_ (Aside0.out (by assumption))) | exact Aside0.out (by assumption))) : Below b w W := h

/-! ### spec_TickRun: function 24 -/
mutual
def spec_TickRun.j0 : Nat → Int → List Int → Bool → List (S39) → List Int → Int → List (S43) → Option ((List (S39)) × List Int × Int × (List (S43)) × List Int)
 | 0, _, _, _, _, _, _, _ => none
 | k + 1, x1, x6, x17, x214000, x214001, x214002, x214003 => if x17 = true then (some (([] : List (S39)), ([] : List Int), 0, ([] : List (S43)), x6)) else ((spec_l24Copy.f k x214000 x214001 x214002 x214003).bind fun bt219 => (spec_TickRun.l0 k x6 0 x214000 x214001 x214002 x214003 bt219.1 bt219.2.1 (mn (wrap64 (x214002 + (mn x1 1000000000000))) 1000000000000) bt219.2.2.2))
def spec_TickRun.l0 : Nat → List Int → Int → List (S39) → List Int → Int → List (S43) → List (S39) → List Int → Int → List (S43) → Option ((List (S39)) × List Int × Int × (List (S43)) × List Int)
 | 0, _, _, _, _, _, _, _, _, _, _ => none
 | k + 1, x6, x8, x214000, x214001, x214002, x214003, x230000, x230001, x230002, x230003 => if x8 < (x214003.length : Int) then (if 0 ≤ x8 then (if x8 < (x214000.length : Int) then (if ((rd_T39 x214000 x8).f2) > 0 then (if ((rd_T43 x214003 x8).f0) = 2 then (spec_TickRun.l0 k x6 (wrap64 (x8 + 1)) x214000 x214001 x214002 x214003 x230000 x230001 x230002 x230003) else (if ((rd_T39 x214000 x8).f2) ≥ x214002 then (if ((rd_T39 x214000 x8).f2) < x230002 then (if x6.length < 17592186044416 then (spec_TickRun.l0 k (x6 ++ [wrap64 (x8 + 1)]) (wrap64 (x8 + 1)) x214000 x214001 x214002 x214003 x230000 x230001 x230002 x230003) else (none)) else (spec_TickRun.l0 k x6 (wrap64 (x8 + 1)) x214000 x214001 x214002 x214003 x230000 x230001 x230002 x230003)) else (spec_TickRun.l0 k x6 (wrap64 (x8 + 1)) x214000 x214001 x214002 x214003 x230000 x230001 x230002 x230003))) else (spec_TickRun.l0 k x6 (wrap64 (x8 + 1)) x214000 x214001 x214002 x214003 x230000 x230001 x230002 x230003)) else (none)) else (none)) else (some (x230000, x230001, x230002, x230003, x6))
end
def spec_TickRun.f (k : Nat) (l0_0 : List (S39)) (l0_1 : List Int) (a0_2 : Int) (l0_3 : List (S43)) (a1 : Int) : Option ((List (S39)) × List Int × Int × (List (S43)) × List Int) := (some (([] : List Int) : List Int)).bind fun y215 => ((spec_l24Ok.f k l0_0 l0_1 a0_2 l0_3).bind fun t218 => (if t218 = true then (spec_TickRun.j0 k a1 y215 (decide (a1 < 0)) l0_0 l0_1 a0_2 l0_3) else (spec_TickRun.j0 k a1 y215 true l0_0 l0_1 a0_2 l0_3)))
theorem spec_TickRun.mono_l : ∀ k, (∀ y0 y1 y2 y3 y4 y5 y6, LeO (spec_TickRun.j0 k y0 y1 y2 y3 y4 y5 y6) (spec_TickRun.j0 (k + 1) y0 y1 y2 y3 y4 y5 y6)) ∧ (∀ y0 y1 y2 y3 y4 y5 y6 y7 y8 y9, LeO (spec_TickRun.l0 k y0 y1 y2 y3 y4 y5 y6 y7 y8 y9) (spec_TickRun.l0 (k + 1) y0 y1 y2 y3 y4 y5 y6 y7 y8 y9))
 | 0 => ⟨fun _ _ _ _ _ _ _ r h => by simp [spec_TickRun.j0] at h, fun _ _ _ _ _ _ _ _ _ _ r h => by simp [spec_TickRun.l0] at h⟩
 | k + 1 => by
  obtain ⟨ih0, ih1⟩ := spec_TickRun.mono_l k
  refine ⟨?_, ?_⟩
  intro y0 y1 y2 y3 y4 y5 y6; unfold spec_TickRun.j0; rotate_left
  intro y0 y1 y2 y3 y4 y5 y6 y7 y8 y9; unfold spec_TickRun.l0; rotate_left
  all_goals repeat' first
  | (with_reducible exact ih0 _ _ _ _ _ _ _)
  | (with_reducible exact ih1 _ _ _ _ _ _ _ _ _ _)
  | (with_reducible exact spec_l24Copy.mono _ _ _ _ _)
  | (with_reducible exact spec_l24Ok.mono _ _ _ _ _)
  | (with_reducible exact LeO.refl _)
  | (with_reducible exact LeO.none _)
  | (with_reducible refine LeO.ite ?_ ?_)
  | (with_reducible refine LeO.bind ?_ (fun _ => ?_))
  | exact ih0 _ _ _ _ _ _ _
  | exact ih1 _ _ _ _ _ _ _ _ _ _
  | exact spec_l24Copy.mono _ _ _ _ _
  | exact spec_l24Ok.mono _ _ _ _ _
  | exact LeO.none _
  | refine LeO.ite ?_ ?_
  | refine LeO.bind ?_ (fun _ => ?_)
theorem spec_TickRun.mono : ∀ a0 a1 a2 a3 a4 k, LeO (spec_TickRun.f k a0 a1 a2 a3 a4) (spec_TickRun.f (k + 1) a0 a1 a2 a3 a4) := by
 intro a0 a1 a2 a3 a4 k
 obtain ⟨ih0, ih1⟩ := spec_TickRun.mono_l k
 unfold spec_TickRun.f
 repeat' first
   | (with_reducible exact ih0 _ _ _ _ _ _ _)
   | (with_reducible exact ih1 _ _ _ _ _ _ _ _ _ _)
   | (with_reducible exact spec_l24Copy.mono _ _ _ _ _)
   | (with_reducible exact spec_l24Ok.mono _ _ _ _ _)
   | (with_reducible exact LeO.refl _)
   | (with_reducible exact LeO.none _)
   | (with_reducible refine LeO.ite ?_ ?_)
   | (with_reducible refine LeO.bind ?_ (fun _ => ?_))
   | exact ih0 _ _ _ _ _ _ _
   | exact ih1 _ _ _ _ _ _ _ _ _ _
   | exact LeO.none _
   | refine LeO.ite ?_ ?_
   | refine LeO.bind ?_ (fun _ => ?_)
set_option maxHeartbeats 8000000 in
set_option maxRecDepth 100000 in
theorem spec_TickRun.calls (k : Nat) (A0_0 : Option Addr) (c0_0 : Nat) (l0_0 : List (S39)) (A0_1 : Option Addr) (c0_1 : Nat) (l0_1 : List Int) (a0_2 : Int) (A0_3 : Option Addr) (c0_3 : Nat) (l0_3 : List (S43)) (a1 : Int) (r1 : List (S39)) (r2 : List Int) (r3 : Int) (r4 : List (S43)) (r5 : List Int) (w : World) (hr0_0 : Kd.C k39 w A0_0 l0_0.length l0_0) (hc0_0 : l0_0.length ≤ c0_0) (hr0_1 : Kd.C (Kd.int .i64) w A0_1 l0_1.length l0_1) (hc0_1 : l0_1.length ≤ c0_1) (hr0_3 : Kd.C k43 w A0_3 l0_3.length l0_3) (hc0_3 : l0_3.length ≤ c0_3) (h : spec_TickRun.f k l0_0 l0_1 a0_2 l0_3 a1 = some (r1, r2, r3, r4, r5)) :
  Calls Try.prog 24 #[.agg #[.slice A0_0 l0_0.length c0_0, .slice A0_1 l0_1.length c0_1, .int .i64 a0_2, .slice A0_3 l0_3.length c0_3], .int .i64 a1] w fun e w' => ∃ v0_ v1_ v3_ v4_ : Value, e = .returned (.tuple #[.agg #[v0_, v1_, .int .i64 r3, v3_], v4_]) ∧ Kd.S k39 39 w' w.heap.size (fun k_ => some k_ ≠ (v1_ : Value).ownBlock ∧ some k_ ≠ (v4_ : Value).ownBlock) v0_ r1 ∧ Kd.R (Kd.int .i64) 2 w' w.heap.size (fun k_ => some k_ ≠ (v4_ : Value).ownBlock) v1_ r2 ∧ Kd.R k43 43 w' w.heap.size (fun _ => True) v3_ r4 ∧ Kd.R (Kd.int .i64) 2 w' w.heap.size (fun k_ => some k_ ≠ (v1_ : Value).ownBlock) v4_ r5 ∧ Below w.heap.size w w' := by
 have hu31 := Try.underlying31; have hu39 := Try.underlying39; have HR0_0 := mk_ hr0_0; have HC0_0 := mk_ hc0_0; clear hr0_0 hc0_0; have HR0_1 := mk_ hr0_1; have HC0_1 := mk_ hc0_1; clear hr0_1 hc0_1; have HR0_3 := mk_ hr0_3; have HC0_3 := mk_ hc0_3; clear hr0_3 hc0_3
 have HB := mk_ (Below.refl w.heap.size w)
 have H : ((some (([] : List Int) : List Int)).bind fun y215 => ((spec_l24Ok.f k l0_0 l0_1 a0_2 l0_3).bind fun t218 => (if t218 = true then (spec_TickRun.j0 k a1 y215 (decide (a1 < 0)) l0_0 l0_1 a0_2 l0_3) else (spec_TickRun.j0 k a1 y215 true l0_0 l0_1 a0_2 l0_3)))) = some (r1, r2, r3, r4, r5) := h
 clear h
 obtain ⟨y215, hy215⟩ : ∃ y_ : List Int, y_ = (([] : List Int)) := ⟨_, rfl⟩
 replace H : ((spec_l24Ok.f k l0_0 l0_1 a0_2 l0_3).bind fun t218 => (if t218 = true then (spec_TickRun.j0 k a1 y215 (decide (a1 < 0)) l0_0 l0_1 a0_2 l0_3) else (spec_TickRun.j0 k a1 y215 true l0_0 l0_1 a0_2 l0_3))) = some (r1, r2, r3, r4, r5) := by first | (rw [hy215]; with_reducible exact H) | (have H2_ := (Option.bind_some _ _).symm.trans H; rw [hy215]; with_reducible exact H2_) | (have H2_ := (Option.bind_some _ _).symm.trans H; with_reducible exact H2_) | with_reducible exact H | (rw [hy215]; exact H) | exact H
 have Ny215 := mk_ hy215; clear hy215; have HC3 := mk_ H; clear H
 go_enter Try.func24, Try.ntmps24
 go_upto_region 2 with (first | ((with_reducible refine gate_dst (N := 2) rfl ?_); refine box_event ?hg (N := 2) ?hd (cs := #[.slice A0_0 l0_0.length c0_0, .slice A0_1 l0_1.length c0_1, .int .i64 a0_2, .slice A0_3 l0_3.length c0_3]) (t := 31) ?hr ?_; (case hd => rfl); (case hg => rfl); (case hr => first | (go_simp; done) | (go_simp; rfl)); intro gb213 hg w4 hbox hb; have BK213 := mk_ (hbox); have GW213 := gE_ HB hg; have GE213 := gE_ HB hg; replace HB := bS_ HB hb; clear hb hbox hg) | ((with_reducible refine gate_dst (N := 4) rfl ?_); refine box_event ?hg (N := 4) ?hd (cs := #[.slice none 0 0, .slice none 0 0, .int .i64 0, .slice none 0 0]) (t := 31) ?hr ?_; (case hd => rfl); (case hg => rfl); (case hr => first | (go_simp; done) | (go_simp; rfl)); intro gb214 hg w5 hbox hb; have BK214 := mk_ (hbox); have GW214 := gE_ HB hg; have GE214 := gE_ HB hg; replace HB := bS_ HB hb; have NB213_214 := nL_ BK213 hg; have NB214_213 := nG_ BK213 hg; replace BK213 := bB_ BK213 hb; clear hb hbox hg) | ((with_reducible refine gate_dst (N := 10) rfl ?_); refine Kd.R_lit (Kd.int .i64) _ 2 ?hg (N := 10) ?hd (xs := ([] : List Int)) (inner := []) (ok := fun _ => True) (okp := fun _ => True) ?hr ?hp (fun _ hk => hk) trivial (Below.refl _ _) (Nat.le_refl _) (by simp) ?_; (case hd => rfl); (case hg => rfl); (case hr => first | (go_simp; done) | (go_simp; rfl)); (case hp => exact (Reps.none _ _)); intro v216 w6 ho7 hb hg_ hnew_; clear hg_ hnew_; (first | rw [← Ny215.out] at ho7 | (simp only [Int.reduceToNat] at ho7; rw [← Ny215.out] at ho7)); have HO217 := rL_ ho7 HB; replace BK213 := bB_ BK213 hb; replace BK214 := bB_ BK214 hb; replace HB := bS_ HB hb; clear hb ho7))
 (try simp only [Act.put, List.setIfInBounds_toArray, List.set_cons_zero, List.set_cons_succ])
 go_cut [17] (fun v17 wc => ∃ (kq : Nat) (x17_2 : Bool), v17 = .bool x17_2 ∧ Aside0 (spec_TickRun.j0 kq a1 y215 x17_2 l0_0 l0_1 a0_2 l0_3 = some (r1, r2, r3, r4, r5)) ∧ Aside0 (kq ≤ k) ∧ Aside0 (Kd.R (Kd.int .i64) 2 wc w.heap.size (fun _ => True) v216 y215) ∧ Aside0 (wc.heap[gb213]? = some (.cells #[(.slice A0_0 l0_0.length c0_0), (.slice A0_1 l0_1.length c0_1), .int .i64 a0_2, (.slice A0_3 l0_3.length c0_3)] 31 (0, 0))) ∧ Aside0 (wc.heap[gb214]? = some (.cells #[(.slice none 0 0), (.slice none 0 0), .int .i64 0, (.slice none 0 0)] 31 (0, 0))) ∧ Aside0 (Below w.heap.size w wc))
 case first =>
  have H := HC3.out; clear HC3; replace H := Option.bind_eq_some_iff.mp H
  obtain ⟨t218, A80, H⟩ := H
  (try dsimp only at H)
  have A8 := mk_ A80; clear A80
  by_cases c9 : t218 = true
  ·subst c9
   replace H := ifT_ H; have H' := mk_ H; clear H; have hnb10 := NB213_214.out; have hnc10 := NB214_213.out
   obtain ⟨hcz11_0, hcz11_1, hcz11_2, hcz11_3, hfz11_0, hfz11_1, hfz11_2, hfz11_3⟩ := cf4_ BK213
   go_wp2_with (first | ((with_reducible refine gate_callee (f := 58) rfl ?_); refine gL_ (some 12) Try.func58 #[.agg #[.slice A0_0 l0_0.length c0_0, .slice A0_1 l0_1.length c0_1, .int .i64 a0_2, .slice A0_3 l0_3.length c0_3]] ?_; (with_reducible refine (spec_l24Ok.calls k _ _ l0_0 _ _ l0_1 a0_2 _ _ l0_3 true _ ?side1 ?side2 ?side3 ?side4 ?side5 ?side6 A8.out).mono ?_); (case side1 => exact cB_ HR0_0 HB); (case side2 => exact HC0_0.out); (case side3 => exact cB_ HR0_1 HB); (case side4 => exact HC0_1.out); (case side5 => exact cB_ HR0_3 HB); (case side6 => exact HC0_3.out); rintro e w12 ⟨rfl, hb⟩; refine ⟨_, rfl, ?_⟩; replace HO217 := rB_ HO217 hb; replace BK213 := bB_ BK213 hb; replace BK214 := bB_ BK214 hb; replace HB := bS_ HB hb; (try clear hb); (try clear hk)))
   go_meet
   case rel => exact ⟨_, (decide (a1 < 0)), eS_, H', ⟨by first | omega | exact Nat.le_refl _⟩, ⟨rT_ HO217⟩, ⟨bT_ BK213⟩, ⟨bT_ BK214⟩, ⟨sABelo_8⟩⟩
  ·replace c9 := Bool.eq_false_iff.mpr c9
   subst c9
   replace H := ifF_ H; have H' := mk_ H; clear H; have hnb13 := NB213_214.out; have hnc13 := NB214_213.out
   obtain ⟨hcz14_0, hcz14_1, hcz14_2, hcz14_3, hfz14_0, hfz14_1, hfz14_2, hfz14_3⟩ := cf4_ BK213
   go_wp2_with (first | ((with_reducible refine gate_callee (f := 58) rfl ?_); refine gL_ (some 12) Try.func58 #[.agg #[.slice A0_0 l0_0.length c0_0, .slice A0_1 l0_1.length c0_1, .int .i64 a0_2, .slice A0_3 l0_3.length c0_3]] ?_; (with_reducible refine (spec_l24Ok.calls k _ _ l0_0 _ _ l0_1 a0_2 _ _ l0_3 false _ ?side1 ?side2 ?side3 ?side4 ?side5 ?side6 A8.out).mono ?_); (case side1 => exact cB_ HR0_0 HB); (case side2 => exact HC0_0.out); (case side3 => exact cB_ HR0_1 HB); (case side4 => exact HC0_1.out); (case side5 => exact cB_ HR0_3 HB); (case side6 => exact HC0_3.out); rintro e w15 ⟨rfl, hb⟩; refine ⟨_, rfl, ?_⟩; replace HO217 := rB_ HO217 hb; replace BK213 := bB_ BK213 hb; replace BK214 := bB_ BK214 hb; replace HB := bS_ HB hb; (try clear hb); (try clear hk)))
   go_meet
   case rel => exact ⟨_, (true), eS_, H', ⟨by first | omega | exact Nat.le_refl _⟩, ⟨rT_ HO217⟩, ⟨bT_ BK213⟩, ⟨bT_ BK214⟩, ⟨sABelo_8⟩⟩
 case rest =>
  clear HC3
  obtain ⟨kq, x17_2, rfl, HA, HJ2, HO_6, BK213, BK214, HB⟩ := hcut
  cases kq with
  | zero => exact absurd HA.out (by simp [spec_TickRun.j0])
  | succ kj2 =>
   have H := HA.out; clear HA
   simp only [spec_TickRun.j0] at H
   by_cases c16 : x17_2 = true
   ·subst c16
    replace H := ifT_ H
    simp only [Option.some.injEq, Prod.mk.injEq] at H
    obtain ⟨rfl, rfl, rfl, rfl, rfl⟩ := H
    have hnb17 := NB214_213.out; have hnc17 := NB213_214.out
    obtain ⟨hcz18_0, hcz18_1, hcz18_2, hcz18_3, hfz18_0, hfz18_1, hfz18_2, hfz18_3⟩ := cf4_ BK214
    go_wp2
    refine bodyPost_ret (results_ct rfl _ _ gb214 31 #[.slice none 0 0, .slice none 0 0, .int .i64 0, .slice none 0 0] (0, 0) _ rfl (bP_ BK214) Try.underlying31 rfl (by kernel_rfl)) rfl ?_
    exact ⟨_, _, _, _, eW_, by first | exact Kd.S_nil _ _ _ _ _ | exact Kd.N_nil _ _ _ _ _ | exact Kd.V_nil _ _ _ _ _ | exact Kd.Q_nil _ _ _ _ _ | exact Kd.R_nil _ _ _ _ _, by first | exact Kd.R_nil _ _ _ _ _ | exact Kd.N_nil _ _ _ _ _ | exact Kd.V_nil _ _ _ _ _ | exact Kd.Q_nil _ _ _ _ _ | exact Kd.S_nil _ _ _ _ _, by first | exact Kd.R_nil _ _ _ _ _ | exact Kd.N_nil _ _ _ _ _ | exact Kd.V_nil _ _ _ _ _ | exact Kd.Q_nil _ _ _ _ _ | exact Kd.S_nil _ _ _ _ _, by (with_reducible repeat (first | apply Kd.R_alloc | apply Kd.R_drewN | apply Kd.R_drew)); exact Kd.R_mono (Kd.R_far (p := ⟨gb214, 3, none⟩) (Kd.R_far (p := ⟨gb214, 2, none⟩) (Kd.R_far (p := ⟨gb214, 1, none⟩) (Kd.R_far (p := ⟨gb214, 0, none⟩) (Kd.R_types HO_6.out BK214.out (by decide)) (fun _ hk => hk.2) (.slice none 0 0)) (fun _ hk => hk.2) (.slice none 0 0)) (fun _ hk => hk.2) (.int .i64 0)) (fun _ hk => hk.2) (.slice none 0 0)) (fun _ hk => (by simp [Value.ownBlock])), sABelo_8⟩
   ·replace c16 := Bool.eq_false_iff.mpr c16
    subst c16
    replace H := ifF_ H; replace H := Option.bind_eq_some_iff.mp H
    obtain ⟨⟨t219, t222, t225, t226⟩, A190, H⟩ := H
    (try dsimp only at H)
    have A19 := mk_ A190; clear A190
    obtain ⟨ji20, hji20⟩ : ∃ j_ : Int, (mn a1 1000000000000) = j_ := ⟨_, rfl⟩
    replace H : (spec_TickRun.l0 kj2 y215 0 l0_0 l0_1 a0_2 l0_3 t219 t222 (mn (wrap64 (a0_2 + (ji20))) 1000000000000) t226) = some (r1, r2, r3, r4, r5) := by first | (rw [hji20] at H; exact H) | (simp only [hji20] at H ⊢; exact H)
    (try rw [hji20] at A19)
    have hji20_ : (if 1000000000000 < a1 then 1000000000000 else a1) = ji20 := hji20
    obtain ⟨ji21, hji21⟩ : ∃ j_ : Int, (mn (wrap64 (a0_2 + (ji20))) 1000000000000) = j_ := ⟨_, rfl⟩
    replace H : (spec_TickRun.l0 kj2 y215 0 l0_0 l0_1 a0_2 l0_3 t219 t222 ji21 t226) = some (r1, r2, r3, r4, r5) := by first | (rw [hji21] at H; exact H) | (simp only [hji21] at H ⊢; exact H)
    (try rw [hji21] at A19)
    have hji21_ : (if 1000000000000 < (wrap64 (a0_2 + (ji20))) then 1000000000000 else (wrap64 (a0_2 + (ji20)))) = ji21 := hji21
    have H' := mk_ H; clear H; have hnb22 := NB213_214.out; have hnc22 := NB214_213.out
    obtain ⟨hcz23_0, hcz23_1, hcz23_2, hcz23_3, hfz23_0, hfz23_1, hfz23_2, hfz23_3⟩ := cf4_ BK213
    go_wp2_with (first | ((with_reducible refine gate_callee (f := 59) rfl ?_); refine gL_ (some 21) Try.func59 #[.agg #[.slice A0_0 l0_0.length c0_0, .slice A0_1 l0_1.length c0_1, .int .i64 a0_2, .slice A0_3 l0_3.length c0_3]] ?_; (with_reducible refine (spec_l24Copy.calls kj2 _ _ l0_0 _ _ l0_1 a0_2 _ _ l0_3 t219 t222 t225 t226 _ ?side1 ?side2 ?side3 ?side4 ?side5 ?side6 A19.out).mono ?_); (case side1 => exact cB_ HR0_0 HB); (case side2 => exact HC0_0.out); (case side3 => exact cB_ HR0_1 HB); (case side4 => exact HC0_1.out); (case side5 => exact cB_ HR0_3 HB); (case side6 => exact HC0_3.out); rintro e w24 ⟨v220, v223, v227, rfl, ho0, ho1, ho2, hb⟩; refine ⟨_, rfl, ?_⟩; have HO221 := sL_ (Kd.S_new' ho0 (rLt_ HO_6)) HB; have HO224 := rL_ (rN_ ho1 HO_6) HB; replace HO_6 := rE_ HO_6 ho1 hb; have HO228 := rL_ ho2 HB; replace BK213 := bB_ BK213 hb; replace BK214 := bB_ BK214 hb; replace HB := bS_ HB hb; (try clear hb); (try clear hk); (try clear ho0); (try clear ho1); (try clear ho2)) | ((with_reducible refine gate_dst (N := 7) rfl ?_); refine box_event ?hg (N := 7) ?hd (cs := #[.slice none 0 0, .slice none 0 0, .int .i64 0, .slice none 0 0]) (t := 31) ?hr ?_; (case hd => rfl); (case hg => rfl); (case hr => first | (go_simp; done) | (go_simp; rfl)); intro gb229 hg w25 hbox hb; replace HO_6 := rB_ HO_6 hb; replace HO221 := sB_ HO221 hb; replace HO224 := rB_ HO224 hb; replace HO228 := rB_ HO228 hb; have BK229 := mk_ (hbox); have GW229 := gE_ HB hg; have GE229 := gE_ HB hg; replace HB := bS_ HB hb; have NB213_229 := nL_ BK213 hg; have NB229_213 := nG_ BK213 hg; replace BK213 := bB_ BK213 hb; have NB214_229 := nL_ BK214 hg; have NB229_214 := nG_ BK214 hg; replace BK214 := bB_ BK214 hb; clear hb hbox hg; obtain ⟨Ao26, co26, eo26⟩ := Kd.S_slice HO221.out; subst eo26; have hnb27 := NB229_213.out; have hnc27 := NB213_229.out; have hnb28 := NB229_214.out; have hnc28 := NB214_229.out; obtain ⟨hcz29_0, hcz29_1, hcz29_2, hcz29_3, hfz29_0, hfz29_1, hfz29_2, hfz29_3⟩ := cf4_ BK229; obtain ⟨Ao30, co30, eo30⟩ := Kd.R_slice HO224.out; subst eo30; obtain ⟨Ao31, co31, eo31⟩ := Kd.R_slice HO228.out; subst eo31; obtain ⟨hcz32_0, hcz32_1, hcz32_2, hcz32_3, hfz32_0, hfz32_1, hfz32_2, hfz32_3⟩ := cf4_ BK213))
    go_loopg [6, 8] kj2 (fun kq v6 v8 w' => ∃ (x6_2 : List Int) (x8_2 : Int), v8 = .int .i64 x8_2 ∧ Aside0 (spec_TickRun.l0 kq x6_2 x8_2 l0_0 l0_1 a0_2 l0_3 t219 t222 ji21 t226 = some (r1, r2, r3, r4, r5)) ∧ Aside0 (kq ≤ kj2) ∧ Aside0 (Kd.R (Kd.int .i64) 2 w' w.heap.size (fun k_ => some k_ ≠ ((.slice Ao30 t222.length co30) : Value).ownBlock) v6 x6_2) ∧ Aside0 (Kd.S k39 39 w' w.heap.size (fun k_ => some k_ ≠ (v6 : Value).ownBlock ∧ some k_ ≠ ((.slice Ao30 t222.length co30) : Value).ownBlock) (.slice Ao26 t219.length co26) t219) ∧ Aside0 (Kd.R (Kd.int .i64) 2 w' w.heap.size (fun k_ => some k_ ≠ (v6 : Value).ownBlock) (.slice Ao30 t222.length co30) t222) ∧ Aside0 (Kd.R k43 43 w' w.heap.size (fun _ => True) (.slice Ao31 t226.length co31) t226) ∧ Aside0 (w'.heap[gb213]? = some (.cells #[(.slice A0_0 l0_0.length c0_0), (.slice A0_1 l0_1.length c0_1), .int .i64 a0_2, (.slice A0_3 l0_3.length c0_3)] 31 (0, 0))) ∧ Aside0 (w'.heap[gb214]? = some (.cells #[(.slice none 0 0), (.slice none 0 0), .int .i64 0, (.slice none 0 0)] 31 (0, 0))) ∧ Aside0 (w'.heap[gb229]? = some (.cells #[(.slice Ao26 t219.length co26), (.slice Ao30 t222.length co30), .int .i64 ji21, (.slice Ao31 t226.length co31)] 31 (0, 0))) ∧ Aside0 (Below w.heap.size w w'))
    case atStart => exact ⟨(y215), (0), eS_, H', ⟨Nat.le_refl _⟩, ⟨rFM_ HO_6 BK229⟩, ⟨sFM_ HO221 BK229⟩, ⟨rFM_ HO224 BK229⟩, ⟨rFM_ HO228 BK229⟩, ⟨bF_ BK213 NB213_229⟩, ⟨bF_ BK214 NB214_229⟩, ⟨bP_ BK229⟩, ⟨sABelo_8⟩⟩
    case round =>
     clear H'; (try clear c16); (try clear hcz23_0); (try clear hcz23_1); (try clear hcz23_2); (try clear hcz23_3); (try clear hcz29_0); (try clear hcz29_1); (try clear hcz29_2); (try clear hcz29_3); (try clear hcz32_0); (try clear hcz32_1); (try clear hcz32_2); (try clear hcz32_3); (try clear hfz23_0); (try clear hfz23_1); (try clear hfz23_2); (try clear hfz23_3); (try clear hfz29_0); (try clear hfz29_1); (try clear hfz29_2); (try clear hfz29_3); (try clear hfz32_0); (try clear hfz32_1); (try clear hfz32_2); (try clear hfz32_3)
     obtain ⟨x6_2, x8_2, rfl, HA, HK2, HO_6, HO_230000, HO_230001, HO_230003, BK213, BK214, BK229, HB⟩ := hrel
     cases gk with
     | zero => exact absurd HA.out (by simp [spec_TickRun.l0])
     | succ k2 =>
      have H := HA.out; clear HA
      simp only [spec_TickRun.l0] at H
      by_cases c33 : x8_2 < (l0_3.length : Int)
      ·rw [if_pos c33] at H
       have c33b0 := decide_eq_true c33
       clear c33
       obtain ⟨c34, H⟩ := ifS_ H
       have c34b0 : decide (0 ≤ x8_2) = true := decide_eq_true c34
       clear c34
       obtain ⟨c35, H⟩ := ifS_ H
       have c35b0 : decide (x8_2 < (l0_0.length : Int)) = true := decide_eq_true c35
       clear c35
       by_cases c36 : ((rd_T39 l0_0 x8_2).f2) > 0
       ·rw [if_pos c36] at H
        have c36b0 : decide (0 < ((rd_T39 l0_0 x8_2).f2)) = true := decide_eq_true c36
        clear c36
        by_cases c37 : ((rd_T43 l0_3 x8_2).f0) = 2
        ·rw [if_pos c37] at H
         have c37b0 := beq_iff_eq.mpr c37
         have c37b1 := bne_eq_false_iff_eq.mpr c37
         clear c37; have H' := mk_ H; clear H; have hnb38 := NB213_214.out; have hnc38 := NB214_213.out; have hnb39 := NB213_229.out; have hnc39 := NB229_213.out
         obtain ⟨hcz40_0, hcz40_1, hcz40_2, hcz40_3, hfz40_0, hfz40_1, hfz40_2, hfz40_3⟩ := cf4_ BK213
         have p230 : 0 ≤ (x8_2 : Int) := dA_
         have q230 : x8_2 < (l0_0.length : Int) := dA_
         obtain ⟨ad230, A230_0, c230_0, e230, hx230_0, hx230_1, hx230_2, hx230_3, hl230_0, hi230_0⟩ := at_T39 HR0_0.out x8_2 p230 q230
         cases e230
         replace hx230_0 := hX_ HB hx230_0
         replace hx230_1 := hX_ HB hx230_1
         replace hx230_2 := hX_ HB hx230_2
         replace hx230_3 := hX_ HB hx230_3
         have HR230_0 := mk_ hi230_0; have HC230_0 := mk_ hl230_0; clear hi230_0 hl230_0; replace p230 := eq_true p230; replace q230 := eq_true q230
         go_wp2_with (first | ((with_reducible refine gate_dst (N := 9) rfl ?_); refine box_event ?hg (N := 9) ?hd (cs := #[.slice none 0 0, .int .i64 0, .int .i64 0, .int .i64 0]) (t := 39) ?hr ?_; (case hd => rfl); (case hg => rfl); (case hr => first | (go_simp; done) | (go_simp; rfl)); intro gb231 hg w41 hbox hb; replace HO_6 := rB_ HO_6 hb; replace HO_230000 := mk_ (Kd.S_below (Kd.S_elderB (sT_ HO_230000) gb231 (Nat.le_of_eq hg.symm)) hb); replace HO_230001 := rB_ HO_230001 hb; replace HO_230003 := rB_ HO_230003 hb; have BK231 := mk_ (hbox); have GW231 := gE_ HB hg; have GE231 := gE_ HB hg; replace HB := bS_ HB hb; have NB213_231 := nL_ BK213 hg; have NB231_213 := nG_ BK213 hg; replace BK213 := bB_ BK213 hb; have NB214_231 := nL_ BK214 hg; have NB231_214 := nG_ BK214 hg; replace BK214 := bB_ BK214 hb; have NB229_231 := nL_ BK229 hg; have NB231_229 := nG_ BK229 hg; replace BK229 := bB_ BK229 hb; clear hb hbox hg; have hnb42 := NB231_213.out; have hnc42 := NB213_231.out; have hnb43 := NB231_214.out; have hnc43 := NB214_231.out; have hnb44 := NB231_229.out; have hnc44 := NB229_231.out; obtain ⟨hcz45_0, hcz45_1, hcz45_2, hcz45_3, hfz45_0, hfz45_1, hfz45_2, hfz45_3⟩ := cf4_ BK231; obtain ⟨hcz46_0, hcz46_1, hcz46_2, hcz46_3, hfz46_0, hfz46_1, hfz46_2, hfz46_3⟩ := cf4_ BK213; have p232 : 0 ≤ (x8_2 : Int) := dA_; have q232 : x8_2 < (l0_3.length : Int) := dA_; obtain ⟨ad232, e232, hx232_0, hx232_1⟩ := at_T43 HR0_3.out x8_2 p232 q232; cases e232; have hn232_0 : ad232.block ≠ gb231 := bn_ hx232_0 GW231; have hn232_1 : ad232.block ≠ gb231 := bn_ hx232_0 GW231; have hn232_2 : ad232.block ≠ gb231 := bn_ hx232_0 GW231; have hn232_3 : ad232.block ≠ gb231 := bn_ hx232_0 GW231; replace hx232_0 := hX_ HB hx232_0; replace hx232_1 := hX_ HB hx232_1; replace hx232_0 := cFr_ hx232_0 ⟨gb231, 0, none⟩ (.slice A230_0 ((rd_T39 l0_0 x8_2).f0).length c230_0) hn232_0; replace hx232_1 := cFr_ hx232_1 ⟨gb231, 0, none⟩ (.slice A230_0 ((rd_T39 l0_0 x8_2).f0).length c230_0) hn232_0; replace hx232_0 := cFr_ hx232_0 ⟨gb231, 1, none⟩ (.int .i64 ((rd_T39 l0_0 x8_2).f1)) hn232_1; replace hx232_1 := cFr_ hx232_1 ⟨gb231, 1, none⟩ (.int .i64 ((rd_T39 l0_0 x8_2).f1)) hn232_1; replace hx232_0 := cFr_ hx232_0 ⟨gb231, 2, none⟩ (.int .i64 ((rd_T39 l0_0 x8_2).f2)) hn232_2; replace hx232_1 := cFr_ hx232_1 ⟨gb231, 2, none⟩ (.int .i64 ((rd_T39 l0_0 x8_2).f2)) hn232_2; replace hx232_0 := cFr_ hx232_0 ⟨gb231, 3, none⟩ (.int .i64 ((rd_T39 l0_0 x8_2).f3)) hn232_3; replace hx232_1 := cFr_ hx232_1 ⟨gb231, 3, none⟩ (.int .i64 ((rd_T39 l0_0 x8_2).f3)) hn232_3; clear hn232_0; clear hn232_1; clear hn232_2; clear hn232_3; replace p232 := eq_true p232; replace q232 := eq_true q232))
         go_roundg k2
         case measure => have := HJ2.out; have := HK2.out; omega
         case rel => exact ⟨(x6_2), (wrap64 (x8_2 + 1)), eS_, H', ⟨by have := HJ2.out; have := HK2.out; omega⟩, ⟨rFM_ HO_6 BK231⟩, ⟨sFN_ HO_230000⟩, ⟨rFM_ HO_230001 BK231⟩, ⟨rFM_ HO_230003 BK231⟩, ⟨bF_ BK213 NB213_231⟩, ⟨bF_ BK214 NB214_231⟩, ⟨bF_ BK229 NB229_231⟩, ⟨sABelo_8⟩⟩
        ·rw [if_neg c37] at H
         have c37b0 := beq_eq_false_iff_ne.mpr c37
         have c37b1 := bne_iff_ne.mpr c37
         by_cases c47 : ((rd_T39 l0_0 x8_2).f2) ≥ a0_2
         ·rw [if_pos c47] at H
          have c47b0 : decide (a0_2 ≤ ((rd_T39 l0_0 x8_2).f2)) = true := decide_eq_true c47
          clear c47
          by_cases c48 : ((rd_T39 l0_0 x8_2).f2) < ji21
          ·rw [if_pos c48] at H
           have c48b0 := decide_eq_true c48
           clear c48
           obtain ⟨c49, H⟩ := ifS_ H
           have LMc49 := mk_ c49; clear c49
           obtain ⟨y233, hy233⟩ : ∃ y_ : List Int, y_ = (x6_2 ++ [wrap64 (x8_2 + 1)]) := ⟨_, rfl⟩
           replace H : (spec_TickRun.l0 k2 y233 (wrap64 (x8_2 + 1)) l0_0 l0_1 a0_2 l0_3 t219 t222 ji21 t226) = some (r1, r2, r3, r4, r5) := by first | (rw [hy233]; with_reducible exact H) | (have H2_ := (Option.bind_some _ _).symm.trans H; rw [hy233]; with_reducible exact H2_) | (have H2_ := (Option.bind_some _ _).symm.trans H; with_reducible exact H2_) | with_reducible exact H | (rw [hy233]; exact H) | exact H
           have Ny233 := mk_ hy233; clear hy233; have H' := mk_ H; clear H; have hnb50 := NB213_214.out; have hnc50 := NB214_213.out; have hnb51 := NB213_229.out; have hnc51 := NB229_213.out
           obtain ⟨hcz52_0, hcz52_1, hcz52_2, hcz52_3, hfz52_0, hfz52_1, hfz52_2, hfz52_3⟩ := cf4_ BK213
           have p230 : 0 ≤ (x8_2 : Int) := dA_
           have q230 : x8_2 < (l0_0.length : Int) := dA_
           obtain ⟨ad230, A230_0, c230_0, e230, hx230_0, hx230_1, hx230_2, hx230_3, hl230_0, hi230_0⟩ := at_T39 HR0_0.out x8_2 p230 q230
           cases e230
           replace hx230_0 := hX_ HB hx230_0
           replace hx230_1 := hX_ HB hx230_1
           replace hx230_2 := hX_ HB hx230_2
           replace hx230_3 := hX_ HB hx230_3
           have HR230_0 := mk_ hi230_0; have HC230_0 := mk_ hl230_0; clear hi230_0 hl230_0; replace p230 := eq_true p230; replace q230 := eq_true q230
           go_wp2_with (first | ((with_reducible refine gate_dst (N := 9) rfl ?_); refine box_event ?hg (N := 9) ?hd (cs := #[.slice none 0 0, .int .i64 0, .int .i64 0, .int .i64 0]) (t := 39) ?hr ?_; (case hd => rfl); (case hg => rfl); (case hr => first | (go_simp; done) | (go_simp; rfl)); intro gb231 hg w53 hbox hb; replace HO_6 := rB_ HO_6 hb; replace HO_230000 := mk_ (Kd.S_below (Kd.S_elderB (sT_ HO_230000) gb231 (Nat.le_of_eq hg.symm)) hb); replace HO_230001 := rB_ HO_230001 hb; replace HO_230003 := rB_ HO_230003 hb; have BK231 := mk_ (hbox); have GW231 := gE_ HB hg; have GE231 := gE_ HB hg; replace HB := bS_ HB hb; have NB213_231 := nL_ BK213 hg; have NB231_213 := nG_ BK213 hg; replace BK213 := bB_ BK213 hb; have NB214_231 := nL_ BK214 hg; have NB231_214 := nG_ BK214 hg; replace BK214 := bB_ BK214 hb; have NB229_231 := nL_ BK229 hg; have NB231_229 := nG_ BK229 hg; replace BK229 := bB_ BK229 hb; clear hb hbox hg; have hnb54 := NB231_213.out; have hnc54 := NB213_231.out; have hnb55 := NB231_214.out; have hnc55 := NB214_231.out; have hnb56 := NB231_229.out; have hnc56 := NB229_231.out; obtain ⟨hcz57_0, hcz57_1, hcz57_2, hcz57_3, hfz57_0, hfz57_1, hfz57_2, hfz57_3⟩ := cf4_ BK231; obtain ⟨hcz58_0, hcz58_1, hcz58_2, hcz58_3, hfz58_0, hfz58_1, hfz58_2, hfz58_3⟩ := cf4_ BK213; have p232 : 0 ≤ (x8_2 : Int) := dA_; have q232 : x8_2 < (l0_3.length : Int) := dA_; obtain ⟨ad232, e232, hx232_0, hx232_1⟩ := at_T43 HR0_3.out x8_2 p232 q232; cases e232; have hn232_0 : ad232.block ≠ gb231 := bn_ hx232_0 GW231; have hn232_1 : ad232.block ≠ gb231 := bn_ hx232_0 GW231; have hn232_2 : ad232.block ≠ gb231 := bn_ hx232_0 GW231; have hn232_3 : ad232.block ≠ gb231 := bn_ hx232_0 GW231; replace hx232_0 := hX_ HB hx232_0; replace hx232_1 := hX_ HB hx232_1; replace hx232_0 := cFr_ hx232_0 ⟨gb231, 0, none⟩ (.slice A230_0 ((rd_T39 l0_0 x8_2).f0).length c230_0) hn232_0; replace hx232_1 := cFr_ hx232_1 ⟨gb231, 0, none⟩ (.slice A230_0 ((rd_T39 l0_0 x8_2).f0).length c230_0) hn232_0; replace hx232_0 := cFr_ hx232_0 ⟨gb231, 1, none⟩ (.int .i64 ((rd_T39 l0_0 x8_2).f1)) hn232_1; replace hx232_1 := cFr_ hx232_1 ⟨gb231, 1, none⟩ (.int .i64 ((rd_T39 l0_0 x8_2).f1)) hn232_1; replace hx232_0 := cFr_ hx232_0 ⟨gb231, 2, none⟩ (.int .i64 ((rd_T39 l0_0 x8_2).f2)) hn232_2; replace hx232_1 := cFr_ hx232_1 ⟨gb231, 2, none⟩ (.int .i64 ((rd_T39 l0_0 x8_2).f2)) hn232_2; replace hx232_0 := cFr_ hx232_0 ⟨gb231, 3, none⟩ (.int .i64 ((rd_T39 l0_0 x8_2).f3)) hn232_3; replace hx232_1 := cFr_ hx232_1 ⟨gb231, 3, none⟩ (.int .i64 ((rd_T39 l0_0 x8_2).f3)) hn232_3; clear hn232_0; clear hn232_1; clear hn232_2; clear hn232_3; replace p232 := eq_true p232; replace q232 := eq_true q232; have hnb59 := NB229_214.out; have hnc59 := NB214_229.out; obtain ⟨hcz60_0, hcz60_1, hcz60_2, hcz60_3, hfz60_0, hfz60_1, hfz60_2, hfz60_3⟩ := cf4_ BK229) | ((with_reducible refine gate_builtin (b := .append) (xs := #[.tmp 68, .tmp 71]) rfl ?_); at_builtin; refine Kd.R_append (Kd.int .i64) (w0 := w) w.heap.size rfl (.tmp 68) (.tmp 71) 25 2 (.int .i64 0) 8 rfl Try.underlying25 info2 rfl (by decide) (by omega) u6 x6_2 (wrap64 (x8_2 + 1)) [.int .i64 (wrap64 (x8_2 + 1))] (fun k_ => some k_ ≠ (.slice Ao30 t222.length co30 : Value).ownBlock) (fun _ => False) rfl (by first | (go_simp; done) | (go_simp; rfl)) ?aP (fun _ hk => hk.elim) ?aF ?aO ?aB ?aS ?aL ?_; (case aP => exact rfl); (case aB => exact sABelo_8); (case aF => exact (fun k_ hk => Kd.fresh' (rLt_ HO_230001) k_ hk)); (case aO => exact (rF_ HO_6 BK231)); (case aS => exact (below_size sABelo_8)); (case aL => have := LMc49.out; omega); intro v234 w61 ho hb hg hat; rw [← Ny233.out] at ho; replace HO_230000 := mk_ (Kd.S_after (ok := (fun k_ => some k_ ≠ (.slice Ao30 t222.length co30 : Value).ownBlock ∧ k_ ≠ gb231)) (by (with_reducible repeat (first | apply Kd.S_alloc | apply Kd.S_drewN | apply Kd.S_drew)); exact Kd.S_mono (Kd.S_far (p := ⟨gb231, 3, none⟩) (Kd.S_far (p := ⟨gb231, 2, none⟩) (Kd.S_far (p := ⟨gb231, 1, none⟩) (Kd.S_far (p := ⟨gb231, 0, none⟩) (Kd.S_mono HO_230000.out (fun k_ hk => (⟨hk, hk.2⟩ : _ ∧ k_ ≠ gb231))) (fun _ hk => hk.2) (.slice A230_0 ((rd_T39 l0_0 x8_2).f0).length c230_0)) (fun _ hk => hk.2) (.int .i64 ((rd_T39 l0_0 x8_2).f1))) (fun _ hk => hk.2) (.int .i64 ((rd_T39 l0_0 x8_2).f2))) (fun _ hk => hk.2) (.int .i64 ((rd_T39 l0_0 x8_2).f3))) (fun _ hk => ⟨⟨hk.1.1.2, hk.1.2⟩, hk.1.1.1⟩)) hg hat); replace HO_230001 := mk_ (Kd.R_after (ok := (fun _ => True)) (by (with_reducible repeat (first | apply Kd.R_alloc | apply Kd.R_drewN | apply Kd.R_drew)); exact Kd.R_mono (Kd.R_far (p := ⟨gb231, 3, none⟩) (Kd.R_far (p := ⟨gb231, 2, none⟩) (Kd.R_far (p := ⟨gb231, 1, none⟩) (Kd.R_far (p := ⟨gb231, 0, none⟩) (Kd.R_types HO_230001.out BK231.out (by decide)) (fun _ hk => hk.2) (.slice A230_0 ((rd_T39 l0_0 x8_2).f0).length c230_0)) (fun _ hk => hk.2) (.int .i64 ((rd_T39 l0_0 x8_2).f1))) (fun _ hk => hk.2) (.int .i64 ((rd_T39 l0_0 x8_2).f2))) (fun _ hk => hk.2) (.int .i64 ((rd_T39 l0_0 x8_2).f3))) (fun _ hk => ⟨trivial, hk.1⟩)) hg hat); replace HO_230003 := mk_ (Kd.R_over' (rF_ HO_230003 BK231) (Kd.R_typed (rF_ HO_6 BK231)) (by decide) hg); replace BK213 := mk_ (blk_grown (bF_ BK213 NB213_231) hg (Kd.R_ne HO_6.out BK213.out (by decide))); replace BK214 := mk_ (blk_grown (bF_ BK214 NB214_231) hg (Kd.R_ne HO_6.out BK214.out (by decide))); replace BK229 := mk_ (blk_grown (bF_ BK229 NB229_231) hg (Kd.R_ne HO_6.out BK229.out (by decide))); replace BK231 := mk_ (blk_grown (bP_ BK231) hg (Kd.R_ne HO_6.out BK231.out (by decide))); replace HB := mk_ (hb); have HO235 := mk_ (ho); clear HO_6; clear ho hb hg hat))
           go_roundg k2
           case measure => have := HJ2.out; have := HK2.out; omega
           case rel => exact ⟨(y233), (wrap64 (x8_2 + 1)), eS_, H', ⟨by have := HJ2.out; have := HK2.out; omega⟩, ⟨rT_ HO235⟩, ⟨sM2_ HO_230000⟩, ⟨rM2_ HO_230001⟩, ⟨rT_ HO_230003⟩, ⟨bT_ BK213⟩, ⟨bT_ BK214⟩, ⟨bT_ BK229⟩, ⟨sABelo_8⟩⟩
          ·rw [if_neg c48] at H
           have c48b0 := decide_eq_false c48
           clear c48; have H' := mk_ H; clear H; have hnb62 := NB213_214.out; have hnc62 := NB214_213.out; have hnb63 := NB213_229.out; have hnc63 := NB229_213.out
           obtain ⟨hcz64_0, hcz64_1, hcz64_2, hcz64_3, hfz64_0, hfz64_1, hfz64_2, hfz64_3⟩ := cf4_ BK213
           have p230 : 0 ≤ (x8_2 : Int) := dA_
           have q230 : x8_2 < (l0_0.length : Int) := dA_
           obtain ⟨ad230, A230_0, c230_0, e230, hx230_0, hx230_1, hx230_2, hx230_3, hl230_0, hi230_0⟩ := at_T39 HR0_0.out x8_2 p230 q230
           cases e230
           replace hx230_0 := hX_ HB hx230_0
           replace hx230_1 := hX_ HB hx230_1
           replace hx230_2 := hX_ HB hx230_2
           replace hx230_3 := hX_ HB hx230_3
           have HR230_0 := mk_ hi230_0; have HC230_0 := mk_ hl230_0; clear hi230_0 hl230_0; replace p230 := eq_true p230; replace q230 := eq_true q230
           go_wp2_with (first | ((with_reducible refine gate_dst (N := 9) rfl ?_); refine box_event ?hg (N := 9) ?hd (cs := #[.slice none 0 0, .int .i64 0, .int .i64 0, .int .i64 0]) (t := 39) ?hr ?_; (case hd => rfl); (case hg => rfl); (case hr => first | (go_simp; done) | (go_simp; rfl)); intro gb231 hg w65 hbox hb; replace HO_6 := rB_ HO_6 hb; replace HO_230000 := mk_ (Kd.S_below (Kd.S_elderB (sT_ HO_230000) gb231 (Nat.le_of_eq hg.symm)) hb); replace HO_230001 := rB_ HO_230001 hb; replace HO_230003 := rB_ HO_230003 hb; have BK231 := mk_ (hbox); have GW231 := gE_ HB hg; have GE231 := gE_ HB hg; replace HB := bS_ HB hb; have NB213_231 := nL_ BK213 hg; have NB231_213 := nG_ BK213 hg; replace BK213 := bB_ BK213 hb; have NB214_231 := nL_ BK214 hg; have NB231_214 := nG_ BK214 hg; replace BK214 := bB_ BK214 hb; have NB229_231 := nL_ BK229 hg; have NB231_229 := nG_ BK229 hg; replace BK229 := bB_ BK229 hb; clear hb hbox hg; have hnb66 := NB231_213.out; have hnc66 := NB213_231.out; have hnb67 := NB231_214.out; have hnc67 := NB214_231.out; have hnb68 := NB231_229.out; have hnc68 := NB229_231.out; obtain ⟨hcz69_0, hcz69_1, hcz69_2, hcz69_3, hfz69_0, hfz69_1, hfz69_2, hfz69_3⟩ := cf4_ BK231; obtain ⟨hcz70_0, hcz70_1, hcz70_2, hcz70_3, hfz70_0, hfz70_1, hfz70_2, hfz70_3⟩ := cf4_ BK213; have p232 : 0 ≤ (x8_2 : Int) := dA_; have q232 : x8_2 < (l0_3.length : Int) := dA_; obtain ⟨ad232, e232, hx232_0, hx232_1⟩ := at_T43 HR0_3.out x8_2 p232 q232; cases e232; have hn232_0 : ad232.block ≠ gb231 := bn_ hx232_0 GW231; have hn232_1 : ad232.block ≠ gb231 := bn_ hx232_0 GW231; have hn232_2 : ad232.block ≠ gb231 := bn_ hx232_0 GW231; have hn232_3 : ad232.block ≠ gb231 := bn_ hx232_0 GW231; replace hx232_0 := hX_ HB hx232_0; replace hx232_1 := hX_ HB hx232_1; replace hx232_0 := cFr_ hx232_0 ⟨gb231, 0, none⟩ (.slice A230_0 ((rd_T39 l0_0 x8_2).f0).length c230_0) hn232_0; replace hx232_1 := cFr_ hx232_1 ⟨gb231, 0, none⟩ (.slice A230_0 ((rd_T39 l0_0 x8_2).f0).length c230_0) hn232_0; replace hx232_0 := cFr_ hx232_0 ⟨gb231, 1, none⟩ (.int .i64 ((rd_T39 l0_0 x8_2).f1)) hn232_1; replace hx232_1 := cFr_ hx232_1 ⟨gb231, 1, none⟩ (.int .i64 ((rd_T39 l0_0 x8_2).f1)) hn232_1; replace hx232_0 := cFr_ hx232_0 ⟨gb231, 2, none⟩ (.int .i64 ((rd_T39 l0_0 x8_2).f2)) hn232_2; replace hx232_1 := cFr_ hx232_1 ⟨gb231, 2, none⟩ (.int .i64 ((rd_T39 l0_0 x8_2).f2)) hn232_2; replace hx232_0 := cFr_ hx232_0 ⟨gb231, 3, none⟩ (.int .i64 ((rd_T39 l0_0 x8_2).f3)) hn232_3; replace hx232_1 := cFr_ hx232_1 ⟨gb231, 3, none⟩ (.int .i64 ((rd_T39 l0_0 x8_2).f3)) hn232_3; clear hn232_0; clear hn232_1; clear hn232_2; clear hn232_3; replace p232 := eq_true p232; replace q232 := eq_true q232; have hnb71 := NB229_214.out; have hnc71 := NB214_229.out; obtain ⟨hcz72_0, hcz72_1, hcz72_2, hcz72_3, hfz72_0, hfz72_1, hfz72_2, hfz72_3⟩ := cf4_ BK229))
           go_roundg k2
           case measure => have := HJ2.out; have := HK2.out; omega
           case rel => exact ⟨(x6_2), (wrap64 (x8_2 + 1)), eS_, H', ⟨by have := HJ2.out; have := HK2.out; omega⟩, ⟨rFM_ HO_6 BK231⟩, ⟨sFN_ HO_230000⟩, ⟨rFM_ HO_230001 BK231⟩, ⟨rFM_ HO_230003 BK231⟩, ⟨bF_ BK213 NB213_231⟩, ⟨bF_ BK214 NB214_231⟩, ⟨bF_ BK229 NB229_231⟩, ⟨sABelo_8⟩⟩
         ·rw [if_neg c47] at H
          have c47b0 : decide (a0_2 ≤ ((rd_T39 l0_0 x8_2).f2)) = false := decide_eq_false c47
          clear c47; have H' := mk_ H; clear H; have hnb73 := NB213_214.out; have hnc73 := NB214_213.out; have hnb74 := NB213_229.out; have hnc74 := NB229_213.out
          obtain ⟨hcz75_0, hcz75_1, hcz75_2, hcz75_3, hfz75_0, hfz75_1, hfz75_2, hfz75_3⟩ := cf4_ BK213
          have p230 : 0 ≤ (x8_2 : Int) := dA_
          have q230 : x8_2 < (l0_0.length : Int) := dA_
          obtain ⟨ad230, A230_0, c230_0, e230, hx230_0, hx230_1, hx230_2, hx230_3, hl230_0, hi230_0⟩ := at_T39 HR0_0.out x8_2 p230 q230
          cases e230
          replace hx230_0 := hX_ HB hx230_0
          replace hx230_1 := hX_ HB hx230_1
          replace hx230_2 := hX_ HB hx230_2
          replace hx230_3 := hX_ HB hx230_3
          have HR230_0 := mk_ hi230_0; have HC230_0 := mk_ hl230_0; clear hi230_0 hl230_0; replace p230 := eq_true p230; replace q230 := eq_true q230
          go_wp2_with (first | ((with_reducible refine gate_dst (N := 9) rfl ?_); refine box_event ?hg (N := 9) ?hd (cs := #[.slice none 0 0, .int .i64 0, .int .i64 0, .int .i64 0]) (t := 39) ?hr ?_; (case hd => rfl); (case hg => rfl); (case hr => first | (go_simp; done) | (go_simp; rfl)); intro gb231 hg w76 hbox hb; replace HO_6 := rB_ HO_6 hb; replace HO_230000 := mk_ (Kd.S_below (Kd.S_elderB (sT_ HO_230000) gb231 (Nat.le_of_eq hg.symm)) hb); replace HO_230001 := rB_ HO_230001 hb; replace HO_230003 := rB_ HO_230003 hb; have BK231 := mk_ (hbox); have GW231 := gE_ HB hg; have GE231 := gE_ HB hg; replace HB := bS_ HB hb; have NB213_231 := nL_ BK213 hg; have NB231_213 := nG_ BK213 hg; replace BK213 := bB_ BK213 hb; have NB214_231 := nL_ BK214 hg; have NB231_214 := nG_ BK214 hg; replace BK214 := bB_ BK214 hb; have NB229_231 := nL_ BK229 hg; have NB231_229 := nG_ BK229 hg; replace BK229 := bB_ BK229 hb; clear hb hbox hg; have hnb77 := NB231_213.out; have hnc77 := NB213_231.out; have hnb78 := NB231_214.out; have hnc78 := NB214_231.out; have hnb79 := NB231_229.out; have hnc79 := NB229_231.out; obtain ⟨hcz80_0, hcz80_1, hcz80_2, hcz80_3, hfz80_0, hfz80_1, hfz80_2, hfz80_3⟩ := cf4_ BK231; obtain ⟨hcz81_0, hcz81_1, hcz81_2, hcz81_3, hfz81_0, hfz81_1, hfz81_2, hfz81_3⟩ := cf4_ BK213; have p232 : 0 ≤ (x8_2 : Int) := dA_; have q232 : x8_2 < (l0_3.length : Int) := dA_; obtain ⟨ad232, e232, hx232_0, hx232_1⟩ := at_T43 HR0_3.out x8_2 p232 q232; cases e232; have hn232_0 : ad232.block ≠ gb231 := bn_ hx232_0 GW231; have hn232_1 : ad232.block ≠ gb231 := bn_ hx232_0 GW231; have hn232_2 : ad232.block ≠ gb231 := bn_ hx232_0 GW231; have hn232_3 : ad232.block ≠ gb231 := bn_ hx232_0 GW231; replace hx232_0 := hX_ HB hx232_0; replace hx232_1 := hX_ HB hx232_1; replace hx232_0 := cFr_ hx232_0 ⟨gb231, 0, none⟩ (.slice A230_0 ((rd_T39 l0_0 x8_2).f0).length c230_0) hn232_0; replace hx232_1 := cFr_ hx232_1 ⟨gb231, 0, none⟩ (.slice A230_0 ((rd_T39 l0_0 x8_2).f0).length c230_0) hn232_0; replace hx232_0 := cFr_ hx232_0 ⟨gb231, 1, none⟩ (.int .i64 ((rd_T39 l0_0 x8_2).f1)) hn232_1; replace hx232_1 := cFr_ hx232_1 ⟨gb231, 1, none⟩ (.int .i64 ((rd_T39 l0_0 x8_2).f1)) hn232_1; replace hx232_0 := cFr_ hx232_0 ⟨gb231, 2, none⟩ (.int .i64 ((rd_T39 l0_0 x8_2).f2)) hn232_2; replace hx232_1 := cFr_ hx232_1 ⟨gb231, 2, none⟩ (.int .i64 ((rd_T39 l0_0 x8_2).f2)) hn232_2; replace hx232_0 := cFr_ hx232_0 ⟨gb231, 3, none⟩ (.int .i64 ((rd_T39 l0_0 x8_2).f3)) hn232_3; replace hx232_1 := cFr_ hx232_1 ⟨gb231, 3, none⟩ (.int .i64 ((rd_T39 l0_0 x8_2).f3)) hn232_3; clear hn232_0; clear hn232_1; clear hn232_2; clear hn232_3; replace p232 := eq_true p232; replace q232 := eq_true q232))
          go_roundg k2
          case measure => have := HJ2.out; have := HK2.out; omega
          case rel => exact ⟨(x6_2), (wrap64 (x8_2 + 1)), eS_, H', ⟨by have := HJ2.out; have := HK2.out; omega⟩, ⟨rFM_ HO_6 BK231⟩, ⟨sFN_ HO_230000⟩, ⟨rFM_ HO_230001 BK231⟩, ⟨rFM_ HO_230003 BK231⟩, ⟨bF_ BK213 NB213_231⟩, ⟨bF_ BK214 NB214_231⟩, ⟨bF_ BK229 NB229_231⟩, ⟨sABelo_8⟩⟩
       ·rw [if_neg c36] at H
        have c36b0 : decide (0 < ((rd_T39 l0_0 x8_2).f2)) = false := decide_eq_false c36
        clear c36; have H' := mk_ H; clear H; have hnb82 := NB213_214.out; have hnc82 := NB214_213.out; have hnb83 := NB213_229.out; have hnc83 := NB229_213.out
        obtain ⟨hcz84_0, hcz84_1, hcz84_2, hcz84_3, hfz84_0, hfz84_1, hfz84_2, hfz84_3⟩ := cf4_ BK213
        have p230 : 0 ≤ (x8_2 : Int) := dA_
        have q230 : x8_2 < (l0_0.length : Int) := dA_
        obtain ⟨ad230, A230_0, c230_0, e230, hx230_0, hx230_1, hx230_2, hx230_3, hl230_0, hi230_0⟩ := at_T39 HR0_0.out x8_2 p230 q230
        cases e230
        replace hx230_0 := hX_ HB hx230_0
        replace hx230_1 := hX_ HB hx230_1
        replace hx230_2 := hX_ HB hx230_2
        replace hx230_3 := hX_ HB hx230_3
        have HR230_0 := mk_ hi230_0; have HC230_0 := mk_ hl230_0; clear hi230_0 hl230_0; replace p230 := eq_true p230; replace q230 := eq_true q230
        go_wp2_with (first | ((with_reducible refine gate_dst (N := 9) rfl ?_); refine box_event ?hg (N := 9) ?hd (cs := #[.slice none 0 0, .int .i64 0, .int .i64 0, .int .i64 0]) (t := 39) ?hr ?_; (case hd => rfl); (case hg => rfl); (case hr => first | (go_simp; done) | (go_simp; rfl)); intro gb231 hg w85 hbox hb; replace HO_6 := rB_ HO_6 hb; replace HO_230000 := mk_ (Kd.S_below (Kd.S_elderB (sT_ HO_230000) gb231 (Nat.le_of_eq hg.symm)) hb); replace HO_230001 := rB_ HO_230001 hb; replace HO_230003 := rB_ HO_230003 hb; have BK231 := mk_ (hbox); have GW231 := gE_ HB hg; have GE231 := gE_ HB hg; replace HB := bS_ HB hb; have NB213_231 := nL_ BK213 hg; have NB231_213 := nG_ BK213 hg; replace BK213 := bB_ BK213 hb; have NB214_231 := nL_ BK214 hg; have NB231_214 := nG_ BK214 hg; replace BK214 := bB_ BK214 hb; have NB229_231 := nL_ BK229 hg; have NB231_229 := nG_ BK229 hg; replace BK229 := bB_ BK229 hb; clear hb hbox hg; have hnb86 := NB231_213.out; have hnc86 := NB213_231.out; have hnb87 := NB231_214.out; have hnc87 := NB214_231.out; have hnb88 := NB231_229.out; have hnc88 := NB229_231.out; obtain ⟨hcz89_0, hcz89_1, hcz89_2, hcz89_3, hfz89_0, hfz89_1, hfz89_2, hfz89_3⟩ := cf4_ BK231))
        go_roundg k2
        case measure => have := HJ2.out; have := HK2.out; omega
        case rel => exact ⟨(x6_2), (wrap64 (x8_2 + 1)), eS_, H', ⟨by have := HJ2.out; have := HK2.out; omega⟩, ⟨rFM_ HO_6 BK231⟩, ⟨sFN_ HO_230000⟩, ⟨rFM_ HO_230001 BK231⟩, ⟨rFM_ HO_230003 BK231⟩, ⟨bF_ BK213 NB213_231⟩, ⟨bF_ BK214 NB214_231⟩, ⟨bF_ BK229 NB229_231⟩, ⟨sABelo_8⟩⟩
      ·rw [if_neg c33] at H
       have c33b0 := decide_eq_false c33
       clear c33
       simp only [Option.some.injEq, Prod.mk.injEq] at H
       obtain ⟨rfl, rfl, rfl, rfl, rfl⟩ := H
       have hnb90 := NB213_214.out; have hnc90 := NB214_213.out; have hnb91 := NB213_229.out; have hnc91 := NB229_213.out
       obtain ⟨hcz92_0, hcz92_1, hcz92_2, hcz92_3, hfz92_0, hfz92_1, hfz92_2, hfz92_3⟩ := cf4_ BK213; have hnb93 := NB229_214.out; have hnc93 := NB214_229.out
       obtain ⟨hcz94_0, hcz94_1, hcz94_2, hcz94_3, hfz94_0, hfz94_1, hfz94_2, hfz94_3⟩ := cf4_ BK229
       obtain ⟨hcz95_0, hcz95_1, hcz95_2, hcz95_3, hfz95_0, hfz95_1, hfz95_2, hfz95_3⟩ := cf4_ BK214
       go_wp2
       refine bodyPost_ret (results_ct rfl _ _ gb214 31 #[.slice Ao26 t219.length co26, .slice Ao30 t222.length co30, .int .i64 ji21, .slice Ao31 t226.length co31] (0, 0) _ rfl (bP_ BK214) Try.underlying31 rfl (by kernel_rfl)) rfl ?_
       exact ⟨_, _, _, _, by first | rfl | (simp [errW_none, errW_some] <;> rfl) | (simp only [← hji20, ← hji21]; first | rfl | (simp [errW_none, errW_some] <;> rfl)) | (simp [*, errW_none, errW_some] <;> rfl), by (with_reducible repeat (first | apply Kd.S_alloc | apply Kd.S_drewN | apply Kd.S_drew)); exact Kd.S_mono (Kd.S_far (p := ⟨gb214, 3, none⟩) (Kd.S_far (p := ⟨gb214, 2, none⟩) (Kd.S_far (p := ⟨gb214, 1, none⟩) (Kd.S_far (p := ⟨gb214, 0, none⟩) (Kd.S_types HO_230000.out BK214.out (by decide)) (fun _ hk => hk.2) (.slice Ao26 t219.length co26)) (fun _ hk => hk.2) (.slice Ao30 t222.length co30)) (fun _ hk => hk.2) (.int .i64 ji21)) (fun _ hk => hk.2) (.slice Ao31 t226.length co31)) (fun _ hk => ⟨hk.1.2, hk.1.1⟩), by (with_reducible repeat (first | apply Kd.R_alloc | apply Kd.R_drewN | apply Kd.R_drew)); exact Kd.R_mono (Kd.R_far (p := ⟨gb214, 3, none⟩) (Kd.R_far (p := ⟨gb214, 2, none⟩) (Kd.R_far (p := ⟨gb214, 1, none⟩) (Kd.R_far (p := ⟨gb214, 0, none⟩) (Kd.R_types HO_230001.out BK214.out (by decide)) (fun _ hk => hk.2) (.slice Ao26 t219.length co26)) (fun _ hk => hk.2) (.slice Ao30 t222.length co30)) (fun _ hk => hk.2) (.int .i64 ji21)) (fun _ hk => hk.2) (.slice Ao31 t226.length co31)) (fun _ hk => hk.1), by (with_reducible repeat (first | apply Kd.R_alloc | apply Kd.R_drewN | apply Kd.R_drew)); exact Kd.R_mono (Kd.R_far (p := ⟨gb214, 3, none⟩) (Kd.R_far (p := ⟨gb214, 2, none⟩) (Kd.R_far (p := ⟨gb214, 1, none⟩) (Kd.R_far (p := ⟨gb214, 0, none⟩) (Kd.R_types HO_230003.out BK214.out (by decide)) (fun _ hk => hk.2) (.slice Ao26 t219.length co26)) (fun _ hk => hk.2) (.slice Ao30 t222.length co30)) (fun _ hk => hk.2) (.int .i64 ji21)) (fun _ hk => hk.2) (.slice Ao31 t226.length co31)) (fun _ hk => trivial), by (with_reducible repeat (first | apply Kd.R_alloc | apply Kd.R_drewN | apply Kd.R_drew)); exact Kd.R_mono (Kd.R_far (p := ⟨gb214, 3, none⟩) (Kd.R_far (p := ⟨gb214, 2, none⟩) (Kd.R_far (p := ⟨gb214, 1, none⟩) (Kd.R_far (p := ⟨gb214, 0, none⟩) (Kd.R_types HO_6.out BK214.out (by decide)) (fun _ hk => hk.2) (.slice Ao26 t219.length co26)) (fun _ hk => hk.2) (.slice Ao30 t222.length co30)) (fun _ hk => hk.2) (.int .i64 ji21)) (fun _ hk => hk.2) (.slice Ao31 t226.length co31)) (fun _ hk => hk.1), sABelo_8⟩

end Go.Proofs.Ytjoghfehmhapbaa.QFnLateOnce
