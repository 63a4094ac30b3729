-- Written by a program of this session out of the printer's texts and contracts of its own.
import Derived.Test.YtjoghfehmhapbaaSq
import Derived.Test.YtjoghfehmhapbaaQFnExactTickRunx0
import Derived.Test.YtjoghfehmhapbaaQFnExactTickRunx9
import Derived.Test.YtjoghfehmhapbaaQFnExactTickRunx10
namespace Go.Proofs.Ytjoghfehmhapbaa.QFnExactTickRun
open Go.RowKit Go.Proofs.YtjoghfehmhapbaaW.PrintWords Go.Proofs.YtjoghfehmhapbaaW.PrintLast Go.Proofs.YtjoghfehmhapbaaW.PrintMore Go.Proofs.Ytjoghfehmhapbaa.Sq
attribute [local go_sem] max2_int min2_int max_two min_two max_three min_three max_four min_four   -- for this text's walks alone
set_option linter.unusedVariables false
set_option linter.unusedSimpArgs false
theorem sABelo_11 {b : Nat} {w W : World} (h : Below b w W := by repeat (first | (with_reducible first | exact Aside0.out (by assumption) | apply below_alloc | apply pw_below_drewN | apply below_drew1 | refine below_set ?_ (Aside0.out (by assumption))) | exact Aside0.out (by assumption))) : Below b w W := h

/-! ### impl_TickRun: function 25 -/
mutual
def impl_TickRun.j0 : Nat → Int → Bool → List (S39) → List Int → Int → List (S43) → Option ((List (S39)) × List Int × Int × (List (S43)) × List Int)
 | 0, _, _, _, _, _, _ => none
 | k + 1, x1, x16, x256000, x256001, x256002, x256003 => if x16 = true then (some (([] : List (S39)), ([] : List Int), 0, ([] : List (S43)), ([] : List Int))) else ((impl_copyRun.f k x256000 x256001 x256002 x256003).bind fun bt258 => (impl_TickRun.l0 k (([] : List Int)) x256000 (x256000.length : Int) 0 x256000 x256001 x256002 x256003 bt258.1 bt258.2.1 (wrap64 (bt258.2.2.1 + (mn x1 (wrap64 (1000000000000 - bt258.2.2.1))))) bt258.2.2.2))
def impl_TickRun.l0 : Nat → List Int → List (S39) → Int → Int → List (S39) → List Int → Int → List (S43) → List (S39) → List Int → Int → List (S43) → Option ((List (S39)) × List Int × Int × (List (S43)) × List Int)
 | 0, _, _, _, _, _, _, _, _, _, _, _, _ => none
 | k + 1, x7, x32, x33, x34, x256000, x256001, x256002, x256003, x269000, x269001, x269002, x269003 => if x34 < x33 then (if 0 ≤ x34 then (if x34 < (x32.length : Int) then (if ((rd_T39 x32 x34).f2) > 0 then (if x34 < (x256003.length : Int) then (if ((rd_T43 x256003 x34).f0) = 2 then (impl_TickRun.l0 k x7 x32 x33 (wrap64 (x34 + 1)) x256000 x256001 x256002 x256003 x269000 x269001 x269002 x269003) else (if ((rd_T39 x32 x34).f2) ≥ x256002 then (if ((rd_T39 x32 x34).f2) < x269002 then (if x7.length < 17592186044416 then (impl_TickRun.l0 k (x7 ++ [wrap64 (x34 + 1)]) x32 x33 (wrap64 (x34 + 1)) x256000 x256001 x256002 x256003 x269000 x269001 x269002 x269003) else (none)) else (impl_TickRun.l0 k x7 x32 x33 (wrap64 (x34 + 1)) x256000 x256001 x256002 x256003 x269000 x269001 x269002 x269003)) else (impl_TickRun.l0 k x7 x32 x33 (wrap64 (x34 + 1)) x256000 x256001 x256002 x256003 x269000 x269001 x269002 x269003))) else (none)) else (impl_TickRun.l0 k x7 x32 x33 (wrap64 (x34 + 1)) x256000 x256001 x256002 x256003 x269000 x269001 x269002 x269003)) else (none)) else (none)) else (some (x269000, x269001, x269002, x269003, x7))
end
def impl_TickRun.f (k : Nat) (l0_0 : List (S39)) (l0_1 : List Int) (a0_2 : Int) (l0_3 : List (S43)) (a1 : Int) : Option ((List (S39)) × List Int × Int × (List (S43)) × List Int) := (impl_runOk.f k l0_0 l0_1 a0_2 l0_3).bind fun t257 => (if t257 = true then (impl_TickRun.j0 k a1 (decide (a1 < 0)) l0_0 l0_1 a0_2 l0_3) else (impl_TickRun.j0 k a1 true l0_0 l0_1 a0_2 l0_3))
theorem impl_TickRun.mono_l : ∀ k, (∀ y0 y1 y2 y3 y4 y5, LeO (impl_TickRun.j0 k y0 y1 y2 y3 y4 y5) (impl_TickRun.j0 (k + 1) y0 y1 y2 y3 y4 y5)) ∧ (∀ y0 y1 y2 y3 y4 y5 y6 y7 y8 y9 y10 y11, LeO (impl_TickRun.l0 k y0 y1 y2 y3 y4 y5 y6 y7 y8 y9 y10 y11) (impl_TickRun.l0 (k + 1) y0 y1 y2 y3 y4 y5 y6 y7 y8 y9 y10 y11))
 | 0 => ⟨fun _ _ _ _ _ _ r h => by simp [impl_TickRun.j0] at h, fun _ _ _ _ _ _ _ _ _ _ _ _ r h => by simp [impl_TickRun.l0] at h⟩
 | k + 1 => by
  obtain ⟨ih0, ih1⟩ := impl_TickRun.mono_l k
  refine ⟨?_, ?_⟩
  intro y0 y1 y2 y3 y4 y5; unfold impl_TickRun.j0; rotate_left
  intro y0 y1 y2 y3 y4 y5 y6 y7 y8 y9 y10 y11; unfold impl_TickRun.l0; rotate_left
  all_goals repeat' first
  | (with_reducible exact ih0 _ _ _ _ _ _)
  | (with_reducible exact ih1 _ _ _ _ _ _ _ _ _ _ _ _)
  | (with_reducible exact impl_copyRun.mono _ _ _ _ _)
  | (with_reducible exact impl_runOk.mono _ _ _ _ _)
  | (with_reducible exact LeO.refl _)
  | (with_reducible exact LeO.none _)
  | (with_reducible refine LeO.ite ?_ ?_)
  | (with_reducible refine LeO.bind ?_ (fun _ => ?_))
  | exact ih0 _ _ _ _ _ _
  | exact ih1 _ _ _ _ _ _ _ _ _ _ _ _
  | exact impl_copyRun.mono _ _ _ _ _
  | exact impl_runOk.mono _ _ _ _ _
  | exact LeO.none _
  | refine LeO.ite ?_ ?_
  | refine LeO.bind ?_ (fun _ => ?_)
theorem impl_TickRun.mono : ∀ a0 a1 a2 a3 a4 k, LeO (impl_TickRun.f k a0 a1 a2 a3 a4) (impl_TickRun.f (k + 1) a0 a1 a2 a3 a4) := by
 intro a0 a1 a2 a3 a4 k
 obtain ⟨ih0, ih1⟩ := impl_TickRun.mono_l k
 unfold impl_TickRun.f
 repeat' first
   | (with_reducible exact ih0 _ _ _ _ _ _)
   | (with_reducible exact ih1 _ _ _ _ _ _ _ _ _ _ _ _)
   | (with_reducible exact impl_copyRun.mono _ _ _ _ _)
   | (with_reducible exact impl_runOk.mono _ _ _ _ _)
   | (with_reducible exact LeO.refl _)
   | (with_reducible exact LeO.none _)
   | (with_reducible refine LeO.ite ?_ ?_)
   | (with_reducible refine LeO.bind ?_ (fun _ => ?_))
   | exact ih0 _ _ _ _ _ _
   | exact ih1 _ _ _ _ _ _ _ _ _ _ _ _
   | exact impl_copyRun.mono _ _ _ _ _
   | exact impl_runOk.mono _ _ _ _ _
   | exact LeO.none _
   | refine LeO.ite ?_ ?_
   | refine LeO.bind ?_ (fun _ => ?_)
set_option maxHeartbeats 8000000 in
set_option maxRecDepth 100000 in
theorem impl_TickRun.calls (k : Nat) (A0_0 : Option Addr) (c0_0 : Nat) (l0_0 : List (S39)) (A0_1 : Option Addr) (c0_1 : Nat) (l0_1 : List Int) (a0_2 : Int) (A0_3 : Option Addr) (c0_3 : Nat) (l0_3 : List (S43)) (a1 : Int) (r1 : List (S39)) (r2 : List Int) (r3 : Int) (r4 : List (S43)) (r5 : List Int) (w : World) (hr0_0 : Kd.C k39 w A0_0 l0_0.length l0_0) (hc0_0 : l0_0.length ≤ c0_0) (hr0_1 : Kd.C (Kd.int .i64) w A0_1 l0_1.length l0_1) (hc0_1 : l0_1.length ≤ c0_1) (hr0_3 : Kd.C k43 w A0_3 l0_3.length l0_3) (hc0_3 : l0_3.length ≤ c0_3) (h : impl_TickRun.f k l0_0 l0_1 a0_2 l0_3 a1 = some (r1, r2, r3, r4, r5)) :
  Calls Try.prog 25 #[.agg #[.slice A0_0 l0_0.length c0_0, .slice A0_1 l0_1.length c0_1, .int .i64 a0_2, .slice A0_3 l0_3.length c0_3], .int .i64 a1] w fun e w' => ∃ v0_ v1_ v3_ v4_ : Value, e = .returned (.tuple #[.agg #[v0_, v1_, .int .i64 r3, v3_], v4_]) ∧ Kd.S k39 39 w' w.heap.size (fun k_ => some k_ ≠ (v1_ : Value).ownBlock ∧ some k_ ≠ (v4_ : Value).ownBlock) v0_ r1 ∧ Kd.R (Kd.int .i64) 2 w' w.heap.size (fun k_ => some k_ ≠ (v4_ : Value).ownBlock) v1_ r2 ∧ Kd.R k43 43 w' w.heap.size (fun _ => True) v3_ r4 ∧ Kd.R (Kd.int .i64) 2 w' w.heap.size (fun k_ => some k_ ≠ (v1_ : Value).ownBlock) v4_ r5 ∧ Below w.heap.size w w' := by
 have hu31 := Try.underlying31; have hu39 := Try.underlying39; have HR0_0 := Aside0.mk hr0_0; have HC0_0 := Aside0.mk hc0_0; clear hr0_0 hc0_0; have HR0_1 := Aside0.mk hr0_1; have HC0_1 := Aside0.mk hc0_1; clear hr0_1 hc0_1; have HR0_3 := Aside0.mk hr0_3; have HC0_3 := Aside0.mk hc0_3; clear hr0_3 hc0_3
 have HB := Aside0.mk (Below.refl w.heap.size w)
 have H : ((impl_runOk.f k l0_0 l0_1 a0_2 l0_3).bind fun t257 => (if t257 = true then (impl_TickRun.j0 k a1 (decide (a1 < 0)) l0_0 l0_1 a0_2 l0_3) else (impl_TickRun.j0 k a1 true l0_0 l0_1 a0_2 l0_3))) = some (r1, r2, r3, r4, r5) := h
 clear h; have HC3 := Aside0.mk H; clear H
 go_enter Try.func25, Try.ntmps25
 go_upto_region 1 with (first | ((with_reducible refine gate_dst (N := 2) rfl ?_); refine box_event ?hg (N := 2) ?hd (cs := #[.slice A0_0 l0_0.length c0_0, .slice A0_1 l0_1.length c0_1, .int .i64 a0_2, .slice A0_3 l0_3.length c0_3]) (t := 31) ?hr ?_; (case hd => rfl); (case hg => rfl); (case hr => first | (go_simp; done) | (go_simp; rfl)); intro gb255 hg w4 hbox hb; have BK255 := Aside0.mk (hbox); have GW255 := gE_ HB hg; have GE255 := gE_ HB hg; replace HB := bS_ HB hb; clear hb hbox hg) | ((with_reducible refine gate_dst (N := 4) rfl ?_); refine box_event ?hg (N := 4) ?hd (cs := #[.slice none 0 0, .slice none 0 0, .int .i64 0, .slice none 0 0]) (t := 31) ?hr ?_; (case hd => rfl); (case hg => rfl); (case hr => first | (go_simp; done) | (go_simp; rfl)); intro gb256 hg w5 hbox hb; have BK256 := Aside0.mk (hbox); have GW256 := gE_ HB hg; have GE256 := gE_ HB hg; replace HB := bS_ HB hb; have NB255_256 := nL_ BK255 hg; have NB256_255 := nG_ BK255 hg; replace BK255 := bB_ BK255 hb; clear hb hbox hg))
 (try simp only [Act.put, List.setIfInBounds_toArray, List.set_cons_zero, List.set_cons_succ])
 go_cut [16] (fun v16 wc => ∃ (kq : Nat) (x16_2 : Bool), v16 = .bool x16_2 ∧ Aside0 (impl_TickRun.j0 kq a1 x16_2 l0_0 l0_1 a0_2 l0_3 = some (r1, r2, r3, r4, r5)) ∧ Aside0 (kq ≤ k) ∧ Aside0 (wc.heap[gb255]? = some (.cells #[(.slice A0_0 l0_0.length c0_0), (.slice A0_1 l0_1.length c0_1), .int .i64 a0_2, (.slice A0_3 l0_3.length c0_3)] 31 (0, 0))) ∧ Aside0 (wc.heap[gb256]? = some (.cells #[(.slice none 0 0), (.slice none 0 0), .int .i64 0, (.slice none 0 0)] 31 (0, 0))) ∧ Aside0 (Below w.heap.size w wc))
 case first =>
  have H := HC3.out; clear HC3; replace H := Option.bind_eq_some_iff.mp H
  obtain ⟨t257, A60, H⟩ := H
  replace H : (if t257 = true then (impl_TickRun.j0 k a1 (decide (a1 < 0)) l0_0 l0_1 a0_2 l0_3) else (impl_TickRun.j0 k a1 true l0_0 l0_1 a0_2 l0_3)) = some (r1, r2, r3, r4, r5) := H
  have A6 := Aside0.mk A60; clear A60
  by_cases c7 : t257 = true
  ·subst c7
   replace H := ifT_ H; have H' := Aside0.mk H; clear H; have hnb8 := NB255_256.out; have hnc8 := NB256_255.out
   obtain ⟨hcz9_0, hcz9_1, hcz9_2, hcz9_3, hfz9_0, hfz9_1, hfz9_2, hfz9_3⟩ := cf4_ BK255
   go_wp2_with (first | ((with_reducible refine gate_callee (f := 48) rfl ?_); refine gL_ (some 11) Try.func48 #[.agg #[.slice A0_0 l0_0.length c0_0, .slice A0_1 l0_1.length c0_1, .int .i64 a0_2, .slice A0_3 l0_3.length c0_3]] ?_; (with_reducible refine (impl_runOk.calls k _ _ l0_0 _ _ l0_1 a0_2 _ _ l0_3 true _ ?side1 ?side2 ?side3 ?side4 ?side5 ?side6 A6.out).mono ?_); (case side1 => exact cB_ HR0_0 HB); (case side2 => exact HC0_0.out); (case side3 => exact cB_ HR0_1 HB); (case side4 => exact HC0_1.out); (case side5 => exact cB_ HR0_3 HB); (case side6 => exact HC0_3.out); rintro e w10 ⟨rfl, hb⟩; refine ⟨_, rfl, ?_⟩; replace BK255 := bB_ BK255 hb; replace BK256 := bB_ BK256 hb; replace HB := bS_ HB hb; (try clear hb)))
   go_meet
   case rel => exact ⟨_, (decide (a1 < 0)), (by first | rfl | (simp; done) | (simp [*]; done)), H', ⟨by first | omega | exact Nat.le_refl _⟩, ⟨bT_ BK255⟩, ⟨bT_ BK256⟩, ⟨sABelo_11⟩⟩
  ·replace c7 := Bool.eq_false_iff.mpr c7
   subst c7
   replace H := ifF_ H; have H' := Aside0.mk H; clear H; have hnb11 := NB255_256.out; have hnc11 := NB256_255.out
   obtain ⟨hcz12_0, hcz12_1, hcz12_2, hcz12_3, hfz12_0, hfz12_1, hfz12_2, hfz12_3⟩ := cf4_ BK255
   go_wp2_with (first | ((with_reducible refine gate_callee (f := 48) rfl ?_); refine gL_ (some 11) Try.func48 #[.agg #[.slice A0_0 l0_0.length c0_0, .slice A0_1 l0_1.length c0_1, .int .i64 a0_2, .slice A0_3 l0_3.length c0_3]] ?_; (with_reducible refine (impl_runOk.calls k _ _ l0_0 _ _ l0_1 a0_2 _ _ l0_3 false _ ?side1 ?side2 ?side3 ?side4 ?side5 ?side6 A6.out).mono ?_); (case side1 => exact cB_ HR0_0 HB); (case side2 => exact HC0_0.out); (case side3 => exact cB_ HR0_1 HB); (case side4 => exact HC0_1.out); (case side5 => exact cB_ HR0_3 HB); (case side6 => exact HC0_3.out); rintro e w13 ⟨rfl, hb⟩; refine ⟨_, rfl, ?_⟩; replace BK255 := bB_ BK255 hb; replace BK256 := bB_ BK256 hb; replace HB := bS_ HB hb; (try clear hb)))
   go_meet
   case rel => exact ⟨_, (true), (by first | rfl | (simp; done) | (simp [*]; done)), H', ⟨by first | omega | exact Nat.le_refl _⟩, ⟨bT_ BK255⟩, ⟨bT_ BK256⟩, ⟨sABelo_11⟩⟩
 case rest =>
  clear HC3
  obtain ⟨kq, x16_2, rfl, HA, HJ2, BK255, BK256, HB⟩ := hcut
  cases kq with
  | zero => exact absurd HA.out (by simp [impl_TickRun.j0])
  | succ kj2 =>
   have H := HA.out; clear HA
   simp only [impl_TickRun.j0] at H
   by_cases c14 : x16_2 = true
   ·subst c14
    replace H := ifT_ H
    simp only [Option.some.injEq, Prod.mk.injEq] at H
    obtain ⟨rfl, rfl, rfl, rfl, rfl⟩ := H
    have hnb15 := NB256_255.out; have hnc15 := NB255_256.out
    obtain ⟨hcz16_0, hcz16_1, hcz16_2, hcz16_3, hfz16_0, hfz16_1, hfz16_2, hfz16_3⟩ := cf4_ BK256
    go_wp2
    refine bodyPost_ret (results_ct rfl _ _ gb256 31 #[.slice none 0 0, .slice none 0 0, .int .i64 0, .slice none 0 0] (0, 0) _ rfl (bP_ BK256) Try.underlying31 rfl (by kernel_rfl)) rfl ?_
    exact ⟨_, _, _, _, by first | rfl | (simp [errW_none, errW_some] <;> rfl) | (simp [*, errW_none, errW_some] <;> rfl), by first | exact Kd.S_nil _ _ _ _ _ | exact Kd.N_nil _ _ _ _ _ | exact Kd.V_nil _ _ _ _ _ | exact Kd.Q_nil _ _ _ _ _ | exact Kd.R_nil _ _ _ _ _, by first | exact Kd.R_nil _ _ _ _ _ | exact Kd.N_nil _ _ _ _ _ | exact Kd.V_nil _ _ _ _ _ | exact Kd.Q_nil _ _ _ _ _ | exact Kd.S_nil _ _ _ _ _, by first | exact Kd.R_nil _ _ _ _ _ | exact Kd.N_nil _ _ _ _ _ | exact Kd.V_nil _ _ _ _ _ | exact Kd.Q_nil _ _ _ _ _ | exact Kd.S_nil _ _ _ _ _, by first | exact Kd.R_nil _ _ _ _ _ | exact Kd.N_nil _ _ _ _ _ | exact Kd.V_nil _ _ _ _ _ | exact Kd.Q_nil _ _ _ _ _ | exact Kd.S_nil _ _ _ _ _, sABelo_11⟩
   ·replace c14 := Bool.eq_false_iff.mpr c14
    subst c14
    replace H := ifF_ H; replace H := Option.bind_eq_some_iff.mp H
    obtain ⟨⟨t258, t261, t264, t265⟩, A170, H⟩ := H
    replace H : (impl_TickRun.l0 kj2 (([] : List Int)) l0_0 (l0_0.length : Int) 0 l0_0 l0_1 a0_2 l0_3 t258 t261 (wrap64 (t264 + (mn a1 (wrap64 (1000000000000 - t264))))) t265) = some (r1, r2, r3, r4, r5) := H
    have A17 := Aside0.mk A170; clear A170
    obtain ⟨ji18, hji18⟩ : ∃ j_ : Int, (mn a1 (wrap64 (1000000000000 - t264))) = j_ := ⟨_, rfl⟩
    replace H : (impl_TickRun.l0 kj2 (([] : List Int)) l0_0 (l0_0.length : Int) 0 l0_0 l0_1 a0_2 l0_3 t258 t261 (wrap64 (t264 + (ji18))) t265) = some (r1, r2, r3, r4, r5) := by first | (rw [hji18] at H; exact H) | (simp only [hji18] at H ⊢; exact H)
    (try rw [hji18] at A17)
    have hji18_ : (if (wrap64 (1000000000000 - t264)) < a1 then (wrap64 (1000000000000 - t264)) else a1) = ji18 := hji18
    obtain ⟨y269, hy269⟩ : ∃ y_ : List Int, y_ = (([] : List Int)) := ⟨_, rfl⟩
    replace H : (impl_TickRun.l0 kj2 y269 l0_0 (l0_0.length : Int) 0 l0_0 l0_1 a0_2 l0_3 t258 t261 (wrap64 (t264 + (ji18))) t265) = some (r1, r2, r3, r4, r5) := by first | (rw [hy269]; with_reducible exact H) | (have H2_ := (Option.bind_some _ _).symm.trans H; rw [hy269]; with_reducible exact H2_) | (have H2_ := (Option.bind_some _ _).symm.trans H; with_reducible exact H2_) | with_reducible exact H | (rw [hy269]; exact H) | exact H
    have Ny269 := Aside0.mk hy269; clear hy269; have H' := Aside0.mk H; clear H; have hnb19 := NB255_256.out; have hnc19 := NB256_255.out
    obtain ⟨hcz20_0, hcz20_1, hcz20_2, hcz20_3, hfz20_0, hfz20_1, hfz20_2, hfz20_3⟩ := cf4_ BK255
    go_wp2_with (first | ((with_reducible refine gate_callee (f := 49) rfl ?_); refine gL_ (some 19) Try.func49 #[.agg #[.slice A0_0 l0_0.length c0_0, .slice A0_1 l0_1.length c0_1, .int .i64 a0_2, .slice A0_3 l0_3.length c0_3]] ?_; (with_reducible refine (impl_copyRun.calls kj2 _ _ l0_0 _ _ l0_1 a0_2 _ _ l0_3 t258 t261 t264 t265 _ ?side1 ?side2 ?side3 ?side4 ?side5 ?side6 A17.out).mono ?_); (case side1 => exact cB_ HR0_0 HB); (case side2 => exact HC0_0.out); (case side3 => exact cB_ HR0_1 HB); (case side4 => exact HC0_1.out); (case side5 => exact cB_ HR0_3 HB); (case side6 => exact HC0_3.out); rintro e w21 ⟨v259, v262, v266, rfl, ho0, ho1, ho2, hb⟩; refine ⟨_, rfl, ?_⟩; have HO260 := sL_ ho0 HB; have HO263 := rL_ ho1 HB; have HO267 := rL_ ho2 HB; replace BK255 := bB_ BK255 hb; replace BK256 := bB_ BK256 hb; replace HB := bS_ HB hb; (try clear hb); (try clear ho0); (try clear ho1); (try clear ho2)) | ((with_reducible refine gate_dst (N := 6) rfl ?_); refine box_event ?hg (N := 6) ?hd (cs := #[.slice none 0 0, .slice none 0 0, .int .i64 0, .slice none 0 0]) (t := 31) ?hr ?_; (case hd => rfl); (case hg => rfl); (case hr => first | (go_simp; done) | (go_simp; rfl)); intro gb268 hg w22 hbox hb; replace HO260 := sB_ HO260 hb; replace HO263 := rB_ HO263 hb; replace HO267 := rB_ HO267 hb; have BK268 := Aside0.mk (hbox); have GW268 := gE_ HB hg; have GE268 := gE_ HB hg; replace HB := bS_ HB hb; have NB255_268 := nL_ BK255 hg; have NB268_255 := nG_ BK255 hg; replace BK255 := bB_ BK255 hb; have NB256_268 := nL_ BK256 hg; have NB268_256 := nG_ BK256 hg; replace BK256 := bB_ BK256 hb; clear hb hbox hg; obtain ⟨Ao23, co23, eo23⟩ := Kd.S_slice HO260.out; subst eo23; have hnb24 := NB268_255.out; have hnc24 := NB255_268.out; have hnb25 := NB268_256.out; have hnc25 := NB256_268.out; obtain ⟨hcz26_0, hcz26_1, hcz26_2, hcz26_3, hfz26_0, hfz26_1, hfz26_2, hfz26_3⟩ := cf4_ BK268; obtain ⟨Ao27, co27, eo27⟩ := Kd.R_slice HO263.out; subst eo27; obtain ⟨Ao28, co28, eo28⟩ := Kd.R_slice HO267.out; subst eo28) | ((with_reducible refine gate_dst (N := 29) rfl ?_); refine Kd.R_lit (Kd.int .i64) _ 2 ?hg (N := 29) ?hd (xs := ([] : List Int)) (inner := []) (ok := fun _ => True) (okp := fun _ => True) ?hr ?hp (fun _ hk => hk) trivial (Below.refl _ _) (Nat.le_refl _) (by simp) ?_; (case hd => rfl); (case hg => rfl); (case hr => first | (go_simp; done) | (go_simp; rfl)); (case hp => exact (Reps.none _ _)); intro v270 w29 ho30 hb hg_ hnew_; clear hg_ hnew_; (first | rw [← Ny269.out] at ho30 | (simp only [Int.reduceToNat] at ho30; rw [← Ny269.out] at ho30)); replace HO260 := Aside0.mk (Kd.S_elder' (sF_ HO260 BK268) (Kd.R_base ho30) hb); replace HO267 := rBF_ HO267 BK268 hb; have HO271 := rLF_ (rN_ ho30 HO263) HB; replace HO263 := rEF_ HO263 BK268 ho30 hb; replace BK255 := bBF_ BK255 NB255_268 hb; replace BK256 := bBF_ BK256 NB256_268 hb; replace BK268 := Aside0.mk (blk_below (g := gb268) (o := .cells #[.slice Ao23 t258.length co23, .slice Ao27 t261.length co27, .int .i64 (wrap64 (t264 + (ji18))), .slice Ao28 t265.length co28] 31 (0, 0)) (bP_ BK268) hb); replace HB := bSF_ HB GE268 hb; clear hb ho30; obtain ⟨hcz31_0, hcz31_1, hcz31_2, hcz31_3, hfz31_0, hfz31_1, hfz31_2, hfz31_3⟩ := cf4_ BK255))
    go_loopg [7, 34] kj2 (fun kq v7 v34 w' => ∃ (x7_2 : List Int) (x34_2 : Int), v34 = .int .i64 x34_2 ∧ Aside0 (impl_TickRun.l0 kq x7_2 l0_0 (l0_0.length : Int) x34_2 l0_0 l0_1 a0_2 l0_3 t258 t261 (wrap64 (t264 + (ji18))) t265 = some (r1, r2, r3, r4, r5)) ∧ Aside0 (kq ≤ kj2) ∧ Aside0 (Kd.R (Kd.int .i64) 2 w' w.heap.size (fun k_ => some k_ ≠ ((.slice Ao27 t261.length co27) : Value).ownBlock) v7 x7_2) ∧ Aside0 (Kd.S k39 39 w' w.heap.size (fun k_ => some k_ ≠ (v7 : Value).ownBlock ∧ some k_ ≠ ((.slice Ao27 t261.length co27) : Value).ownBlock) (.slice Ao23 t258.length co23) t258) ∧ Aside0 (Kd.R (Kd.int .i64) 2 w' w.heap.size (fun k_ => some k_ ≠ (v7 : Value).ownBlock) (.slice Ao27 t261.length co27) t261) ∧ Aside0 (Kd.R k43 43 w' w.heap.size (fun _ => True) (.slice Ao28 t265.length co28) t265) ∧ Aside0 (w'.heap[gb255]? = some (.cells #[(.slice A0_0 l0_0.length c0_0), (.slice A0_1 l0_1.length c0_1), .int .i64 a0_2, (.slice A0_3 l0_3.length c0_3)] 31 (0, 0))) ∧ Aside0 (w'.heap[gb256]? = some (.cells #[(.slice none 0 0), (.slice none 0 0), .int .i64 0, (.slice none 0 0)] 31 (0, 0))) ∧ Aside0 (w'.heap[gb268]? = some (.cells #[(.slice Ao23 t258.length co23), (.slice Ao27 t261.length co27), .int .i64 (wrap64 (t264 + (ji18))), (.slice Ao28 t265.length co28)] 31 (0, 0))) ∧ Aside0 (Below w.heap.size w w'))
    case atStart => exact ⟨(y269), (0), (by first | rfl | (simp; done) | (simp [*]; done)), H', ⟨Nat.le_refl _⟩, ⟨rM2_ HO271⟩, ⟨sM2_ HO260⟩, ⟨rM2_ HO263⟩, ⟨rT_ HO267⟩, ⟨bT_ BK255⟩, ⟨bT_ BK256⟩, ⟨bT_ BK268⟩, ⟨sABelo_11⟩⟩
    case round =>
     clear H'; (try clear c14); (try clear hcz20_0); (try clear hcz20_1); (try clear hcz20_2); (try clear hcz20_3); (try clear hcz26_0); (try clear hcz26_1); (try clear hcz26_2); (try clear hcz26_3); (try clear hcz31_0); (try clear hcz31_1); (try clear hcz31_2); (try clear hcz31_3); (try clear hfz20_0); (try clear hfz20_1); (try clear hfz20_2); (try clear hfz20_3); (try clear hfz26_0); (try clear hfz26_1); (try clear hfz26_2); (try clear hfz26_3); (try clear hfz31_0); (try clear hfz31_1); (try clear hfz31_2); (try clear hfz31_3)
     obtain ⟨x7_2, x34_2, rfl, HA, HK2, HO_7, HO_269000, HO_269001, HO_269003, BK255, BK256, BK268, HB⟩ := hrel
     cases gk with
     | zero => exact absurd HA.out (by simp [impl_TickRun.l0])
     | succ k2 =>
      have H := HA.out; clear HA
      simp only [impl_TickRun.l0] at H
      by_cases c32 : x34_2 < (l0_0.length : Int)
      ·rw [if_pos c32] at H
       have c32b0 : decide (x34_2 < (l0_0.length : Int)) = true := decide_eq_true c32
       clear c32
       obtain ⟨c33, H⟩ := ifS_ H
       have c33b0 : decide (0 ≤ x34_2) = true := decide_eq_true c33
       clear c33
       obtain ⟨c34, H⟩ := ifS_ H
       have c34b0 : decide (x34_2 < (l0_0.length : Int)) = true := decide_eq_true c34
       clear c34
       by_cases c35 : ((rd_T39 l0_0 x34_2).f2) > 0
       ·rw [if_pos c35] at H
        have c35b0 : decide (0 < ((rd_T39 l0_0 x34_2).f2)) = true := decide_eq_true c35
        clear c35
        obtain ⟨c36, H⟩ := ifS_ H
        have c36b0 : decide (x34_2 < (l0_3.length : Int)) = true := decide_eq_true c36
        clear c36
        by_cases c37 : ((rd_T43 l0_3 x34_2).f0) = 2
        ·rw [if_pos c37] at H
         have c37b0 : (((rd_T43 l0_3 x34_2).f0) == 2) = true := beq_iff_eq.mpr c37
         have c37b1 : (((rd_T43 l0_3 x34_2).f0) != 2) = false := bne_eq_false_iff_eq.mpr c37
         clear c37; have H' := Aside0.mk H; clear H
         have p272 : 0 ≤ (x34_2 : Int) := of_decide_eq_true (by first | (with_reducible assumption) | assumption)
         have q272 : x34_2 < (l0_0.length : Int) := of_decide_eq_true (by first | (with_reducible assumption) | assumption)
         obtain ⟨ad272, A272_0, c272_0, e272, hx272_0, hx272_1, hx272_2, hx272_3, hl272_0, hi272_0⟩ := at_T39 HR0_0.out x34_2 p272 q272
         cases e272
         replace hx272_0 := (HB.out.cell (World.block_lt_of_cell? w _ hx272_0)).trans hx272_0
         replace hx272_1 := (HB.out.cell (World.block_lt_of_cell? w _ hx272_1)).trans hx272_1
         replace hx272_2 := (HB.out.cell (World.block_lt_of_cell? w _ hx272_2)).trans hx272_2
         replace hx272_3 := (HB.out.cell (World.block_lt_of_cell? w _ hx272_3)).trans hx272_3
         have HR272_0 := Aside0.mk hi272_0; have HC272_0 := Aside0.mk hl272_0; clear hi272_0 hl272_0; replace p272 := eq_true p272; replace q272 := eq_true q272
         go_wp2_with (first | ((with_reducible refine gate_dst (N := 9) rfl ?_); refine box_event ?hg (N := 9) ?hd (cs := #[.slice none 0 0, .int .i64 0, .int .i64 0, .int .i64 0]) (t := 39) ?hr ?_; (case hd => rfl); (case hg => rfl); (case hr => first | (go_simp; done) | (go_simp; rfl)); intro gb273 hg w38 hbox hb; replace HO_7 := rB_ HO_7 hb; replace HO_269000 := Aside0.mk (Kd.S_below (Kd.S_elderB (sT_ HO_269000) gb273 (Nat.le_of_eq hg.symm)) hb); replace HO_269001 := rB_ HO_269001 hb; replace HO_269003 := rB_ HO_269003 hb; have BK273 := Aside0.mk (hbox); have GW273 := gE_ HB hg; have GE273 := gE_ HB hg; replace HB := bS_ HB hb; have NB255_273 := nL_ BK255 hg; have NB273_255 := nG_ BK255 hg; replace BK255 := bB_ BK255 hb; have NB256_273 := nL_ BK256 hg; have NB273_256 := nG_ BK256 hg; replace BK256 := bB_ BK256 hb; have NB268_273 := nL_ BK268 hg; have NB273_268 := nG_ BK268 hg; replace BK268 := bB_ BK268 hb; clear hb hbox hg; have hnb39 := NB273_255.out; have hnc39 := NB255_273.out; have hnb40 := NB273_256.out; have hnc40 := NB256_273.out; have hnb41 := NB273_268.out; have hnc41 := NB268_273.out; obtain ⟨hcz42_0, hcz42_1, hcz42_2, hcz42_3, hfz42_0, hfz42_1, hfz42_2, hfz42_3⟩ := cf4_ BK273; have hnb43 := NB255_256.out; have hnc43 := NB256_255.out; have hnb44 := NB255_268.out; have hnc44 := NB268_255.out; obtain ⟨hcz45_0, hcz45_1, hcz45_2, hcz45_3, hfz45_0, hfz45_1, hfz45_2, hfz45_3⟩ := cf4_ BK255; have p274 : 0 ≤ (x34_2 : Int) := of_decide_eq_true (by first | (with_reducible assumption) | assumption); have q274 : x34_2 < (l0_3.length : Int) := of_decide_eq_true (by first | (with_reducible assumption) | assumption); obtain ⟨ad274, e274, hx274_0, hx274_1⟩ := at_T43 HR0_3.out x34_2 p274 q274; cases e274; have hn274_0 : ad274.block ≠ gb273 := Nat.ne_of_lt (Nat.lt_of_lt_of_le (by have := World.block_lt_of_cell? _ _ hx274_0; first | rwa [add_block] at this | exact this) GW273.out); have hn274_1 : ad274.block ≠ gb273 := Nat.ne_of_lt (Nat.lt_of_lt_of_le (by have := World.block_lt_of_cell? _ _ hx274_0; first | rwa [add_block] at this | exact this) GW273.out); have hn274_2 : ad274.block ≠ gb273 := Nat.ne_of_lt (Nat.lt_of_lt_of_le (by have := World.block_lt_of_cell? _ _ hx274_0; first | rwa [add_block] at this | exact this) GW273.out); have hn274_3 : ad274.block ≠ gb273 := Nat.ne_of_lt (Nat.lt_of_lt_of_le (by have := World.block_lt_of_cell? _ _ hx274_0; first | rwa [add_block] at this | exact this) GW273.out); replace hx274_0 := (HB.out.cell (World.block_lt_of_cell? w _ hx274_0)).trans hx274_0; replace hx274_1 := (HB.out.cell (World.block_lt_of_cell? w _ hx274_1)).trans hx274_1; replace hx274_0 := (cell_far (p := ⟨gb273, 0, none⟩) (by first | (rw [add_block]; exact hn274_0) | (show (Addr.add _ _).block ≠ _; rw [add_block]; exact hn274_0) | exact hn274_0) (.slice A272_0 ((rd_T39 l0_0 x34_2).f0).length c272_0)).trans hx274_0; replace hx274_1 := (cell_far (p := ⟨gb273, 0, none⟩) (by first | (rw [add_block]; exact hn274_0) | (show (Addr.add _ _).block ≠ _; rw [add_block]; exact hn274_0) | exact hn274_0) (.slice A272_0 ((rd_T39 l0_0 x34_2).f0).length c272_0)).trans hx274_1; replace hx274_0 := (cell_far (p := ⟨gb273, 1, none⟩) (by first | (rw [add_block]; exact hn274_1) | (show (Addr.add _ _).block ≠ _; rw [add_block]; exact hn274_1) | exact hn274_1) (.int .i64 ((rd_T39 l0_0 x34_2).f1))).trans hx274_0; replace hx274_1 := (cell_far (p := ⟨gb273, 1, none⟩) (by first | (rw [add_block]; exact hn274_1) | (show (Addr.add _ _).block ≠ _; rw [add_block]; exact hn274_1) | exact hn274_1) (.int .i64 ((rd_T39 l0_0 x34_2).f1))).trans hx274_1; replace hx274_0 := (cell_far (p := ⟨gb273, 2, none⟩) (by first | (rw [add_block]; exact hn274_2) | (show (Addr.add _ _).block ≠ _; rw [add_block]; exact hn274_2) | exact hn274_2) (.int .i64 ((rd_T39 l0_0 x34_2).f2))).trans hx274_0; replace hx274_1 := (cell_far (p := ⟨gb273, 2, none⟩) (by first | (rw [add_block]; exact hn274_2) | (show (Addr.add _ _).block ≠ _; rw [add_block]; exact hn274_2) | exact hn274_2) (.int .i64 ((rd_T39 l0_0 x34_2).f2))).trans hx274_1; replace hx274_0 := (cell_far (p := ⟨gb273, 3, none⟩) (by first | (rw [add_block]; exact hn274_3) | (show (Addr.add _ _).block ≠ _; rw [add_block]; exact hn274_3) | exact hn274_3) (.int .i64 ((rd_T39 l0_0 x34_2).f3))).trans hx274_0; replace hx274_1 := (cell_far (p := ⟨gb273, 3, none⟩) (by first | (rw [add_block]; exact hn274_3) | (show (Addr.add _ _).block ≠ _; rw [add_block]; exact hn274_3) | exact hn274_3) (.int .i64 ((rd_T39 l0_0 x34_2).f3))).trans hx274_1; clear hn274_0; clear hn274_1; clear hn274_2; clear hn274_3; replace p274 := eq_true p274; replace q274 := eq_true q274))
         go_roundg k2
         case measure => have := HJ2.out; have := HK2.out; omega
         case rel => exact ⟨(x7_2), (wrap64 (x34_2 + 1)), (by first | rfl | (simp; done) | (simp [*]; done)), H', ⟨by have := HJ2.out; have := HK2.out; omega⟩, ⟨rFM_ HO_7 BK273⟩, ⟨sFN_ HO_269000⟩, ⟨rFM_ HO_269001 BK273⟩, ⟨rFM_ HO_269003 BK273⟩, ⟨bF_ BK255 NB255_273⟩, ⟨bF_ BK256 NB256_273⟩, ⟨bF_ BK268 NB268_273⟩, ⟨sABelo_11⟩⟩
        ·rw [if_neg c37] at H
         have c37b0 : (((rd_T43 l0_3 x34_2).f0) == 2) = false := beq_eq_false_iff_ne.mpr c37
         have c37b1 : (((rd_T43 l0_3 x34_2).f0) != 2) = true := bne_iff_ne.mpr c37
         by_cases c46 : ((rd_T39 l0_0 x34_2).f2) ≥ a0_2
         ·rw [if_pos c46] at H
          have c46b0 : decide (a0_2 ≤ ((rd_T39 l0_0 x34_2).f2)) = true := decide_eq_true c46
          clear c46
          by_cases c47 : ((rd_T39 l0_0 x34_2).f2) < (wrap64 (t264 + (ji18)))
          ·rw [if_pos c47] at H
           have c47b0 : decide (((rd_T39 l0_0 x34_2).f2) < (wrap64 (t264 + (ji18)))) = true := decide_eq_true c47
           clear c47
           obtain ⟨c48, H⟩ := ifS_ H
           have LMc48 := Aside0.mk c48; clear c48
           obtain ⟨y275, hy275⟩ : ∃ y_ : List Int, y_ = (x7_2 ++ [wrap64 (x34_2 + 1)]) := ⟨_, rfl⟩
           replace H : (impl_TickRun.l0 k2 y275 l0_0 (l0_0.length : Int) (wrap64 (x34_2 + 1)) l0_0 l0_1 a0_2 l0_3 t258 t261 (wrap64 (t264 + (ji18))) t265) = some (r1, r2, r3, r4, r5) := by first | (rw [hy275]; with_reducible exact H) | (have H2_ := (Option.bind_some _ _).symm.trans H; rw [hy275]; with_reducible exact H2_) | (have H2_ := (Option.bind_some _ _).symm.trans H; with_reducible exact H2_) | with_reducible exact H | (rw [hy275]; exact H) | exact H
           have Ny275 := Aside0.mk hy275; clear hy275; have H' := Aside0.mk H; clear H
           have p272 : 0 ≤ (x34_2 : Int) := of_decide_eq_true (by first | (with_reducible assumption) | assumption)
           have q272 : x34_2 < (l0_0.length : Int) := of_decide_eq_true (by first | (with_reducible assumption) | assumption)
           obtain ⟨ad272, A272_0, c272_0, e272, hx272_0, hx272_1, hx272_2, hx272_3, hl272_0, hi272_0⟩ := at_T39 HR0_0.out x34_2 p272 q272
           cases e272
           replace hx272_0 := (HB.out.cell (World.block_lt_of_cell? w _ hx272_0)).trans hx272_0
           replace hx272_1 := (HB.out.cell (World.block_lt_of_cell? w _ hx272_1)).trans hx272_1
           replace hx272_2 := (HB.out.cell (World.block_lt_of_cell? w _ hx272_2)).trans hx272_2
           replace hx272_3 := (HB.out.cell (World.block_lt_of_cell? w _ hx272_3)).trans hx272_3
           have HR272_0 := Aside0.mk hi272_0; have HC272_0 := Aside0.mk hl272_0; clear hi272_0 hl272_0; replace p272 := eq_true p272; replace q272 := eq_true q272
           go_wp2_with (first | ((with_reducible refine gate_dst (N := 9) rfl ?_); refine box_event ?hg (N := 9) ?hd (cs := #[.slice none 0 0, .int .i64 0, .int .i64 0, .int .i64 0]) (t := 39) ?hr ?_; (case hd => rfl); (case hg => rfl); (case hr => first | (go_simp; done) | (go_simp; rfl)); intro gb273 hg w49 hbox hb; replace HO_7 := rB_ HO_7 hb; replace HO_269000 := Aside0.mk (Kd.S_below (Kd.S_elderB (sT_ HO_269000) gb273 (Nat.le_of_eq hg.symm)) hb); replace HO_269001 := rB_ HO_269001 hb; replace HO_269003 := rB_ HO_269003 hb; have BK273 := Aside0.mk (hbox); have GW273 := gE_ HB hg; have GE273 := gE_ HB hg; replace HB := bS_ HB hb; have NB255_273 := nL_ BK255 hg; have NB273_255 := nG_ BK255 hg; replace BK255 := bB_ BK255 hb; have NB256_273 := nL_ BK256 hg; have NB273_256 := nG_ BK256 hg; replace BK256 := bB_ BK256 hb; have NB268_273 := nL_ BK268 hg; have NB273_268 := nG_ BK268 hg; replace BK268 := bB_ BK268 hb; clear hb hbox hg; have hnb50 := NB273_255.out; have hnc50 := NB255_273.out; have hnb51 := NB273_256.out; have hnc51 := NB256_273.out; have hnb52 := NB273_268.out; have hnc52 := NB268_273.out; obtain ⟨hcz53_0, hcz53_1, hcz53_2, hcz53_3, hfz53_0, hfz53_1, hfz53_2, hfz53_3⟩ := cf4_ BK273; have hnb54 := NB255_256.out; have hnc54 := NB256_255.out; have hnb55 := NB255_268.out; have hnc55 := NB268_255.out; obtain ⟨hcz56_0, hcz56_1, hcz56_2, hcz56_3, hfz56_0, hfz56_1, hfz56_2, hfz56_3⟩ := cf4_ BK255; have p274 : 0 ≤ (x34_2 : Int) := of_decide_eq_true (by first | (with_reducible assumption) | assumption); have q274 : x34_2 < (l0_3.length : Int) := of_decide_eq_true (by first | (with_reducible assumption) | assumption); obtain ⟨ad274, e274, hx274_0, hx274_1⟩ := at_T43 HR0_3.out x34_2 p274 q274; cases e274; have hn274_0 : ad274.block ≠ gb273 := Nat.ne_of_lt (Nat.lt_of_lt_of_le (by have := World.block_lt_of_cell? _ _ hx274_0; first | rwa [add_block] at this | exact this) GW273.out); have hn274_1 : ad274.block ≠ gb273 := Nat.ne_of_lt (Nat.lt_of_lt_of_le (by have := World.block_lt_of_cell? _ _ hx274_0; first | rwa [add_block] at this | exact this) GW273.out); have hn274_2 : ad274.block ≠ gb273 := Nat.ne_of_lt (Nat.lt_of_lt_of_le (by have := World.block_lt_of_cell? _ _ hx274_0; first | rwa [add_block] at this | exact this) GW273.out); have hn274_3 : ad274.block ≠ gb273 := Nat.ne_of_lt (Nat.lt_of_lt_of_le (by have := World.block_lt_of_cell? _ _ hx274_0; first | rwa [add_block] at this | exact this) GW273.out); replace hx274_0 := (HB.out.cell (World.block_lt_of_cell? w _ hx274_0)).trans hx274_0; replace hx274_1 := (HB.out.cell (World.block_lt_of_cell? w _ hx274_1)).trans hx274_1; replace hx274_0 := (cell_far (p := ⟨gb273, 0, none⟩) (by first | (rw [add_block]; exact hn274_0) | (show (Addr.add _ _).block ≠ _; rw [add_block]; exact hn274_0) | exact hn274_0) (.slice A272_0 ((rd_T39 l0_0 x34_2).f0).length c272_0)).trans hx274_0; replace hx274_1 := (cell_far (p := ⟨gb273, 0, none⟩) (by first | (rw [add_block]; exact hn274_0) | (show (Addr.add _ _).block ≠ _; rw [add_block]; exact hn274_0) | exact hn274_0) (.slice A272_0 ((rd_T39 l0_0 x34_2).f0).length c272_0)).trans hx274_1; replace hx274_0 := (cell_far (p := ⟨gb273, 1, none⟩) (by first | (rw [add_block]; exact hn274_1) | (show (Addr.add _ _).block ≠ _; rw [add_block]; exact hn274_1) | exact hn274_1) (.int .i64 ((rd_T39 l0_0 x34_2).f1))).trans hx274_0; replace hx274_1 := (cell_far (p := ⟨gb273, 1, none⟩) (by first | (rw [add_block]; exact hn274_1) | (show (Addr.add _ _).block ≠ _; rw [add_block]; exact hn274_1) | exact hn274_1) (.int .i64 ((rd_T39 l0_0 x34_2).f1))).trans hx274_1; replace hx274_0 := (cell_far (p := ⟨gb273, 2, none⟩) (by first | (rw [add_block]; exact hn274_2) | (show (Addr.add _ _).block ≠ _; rw [add_block]; exact hn274_2) | exact hn274_2) (.int .i64 ((rd_T39 l0_0 x34_2).f2))).trans hx274_0; replace hx274_1 := (cell_far (p := ⟨gb273, 2, none⟩) (by first | (rw [add_block]; exact hn274_2) | (show (Addr.add _ _).block ≠ _; rw [add_block]; exact hn274_2) | exact hn274_2) (.int .i64 ((rd_T39 l0_0 x34_2).f2))).trans hx274_1; replace hx274_0 := (cell_far (p := ⟨gb273, 3, none⟩) (by first | (rw [add_block]; exact hn274_3) | (show (Addr.add _ _).block ≠ _; rw [add_block]; exact hn274_3) | exact hn274_3) (.int .i64 ((rd_T39 l0_0 x34_2).f3))).trans hx274_0; replace hx274_1 := (cell_far (p := ⟨gb273, 3, none⟩) (by first | (rw [add_block]; exact hn274_3) | (show (Addr.add _ _).block ≠ _; rw [add_block]; exact hn274_3) | exact hn274_3) (.int .i64 ((rd_T39 l0_0 x34_2).f3))).trans hx274_1; clear hn274_0; clear hn274_1; clear hn274_2; clear hn274_3; replace p274 := eq_true p274; replace q274 := eq_true q274; have hnb57 := NB268_256.out; have hnc57 := NB256_268.out; obtain ⟨hcz58_0, hcz58_1, hcz58_2, hcz58_3, hfz58_0, hfz58_1, hfz58_2, hfz58_3⟩ := cf4_ BK268) | ((with_reducible refine gate_builtin (b := .append) (xs := #[.tmp 65, .tmp 68]) rfl ?_); at_builtin; refine Kd.R_append (Kd.int .i64) (w0 := w) w.heap.size rfl (.tmp 65) (.tmp 68) 25 2 (.int .i64 0) 8 rfl Try.underlying25 info2 rfl (by decide) (by omega) u7 x7_2 (wrap64 (x34_2 + 1)) [.int .i64 (wrap64 (x34_2 + 1))] (fun k_ => some k_ ≠ (.slice Ao27 t261.length co27 : Value).ownBlock) (fun _ => False) rfl (by first | (go_simp; done) | (go_simp; rfl)) ?aP (fun _ hk => hk.elim) ?aF ?aO ?aB ?aS ?aL ?_; (case aP => exact rfl); (case aB => exact sABelo_11); (case aF => exact (fun k_ hk => Kd.fresh' (rLt_ HO_269001) k_ hk)); (case aO => exact (rF_ HO_7 BK273)); (case aS => exact (below_size sABelo_11)); (case aL => have := LMc48.out; omega); intro v276 w59 ho hb hg hat; rw [← Ny275.out] at ho; replace HO_269000 := Aside0.mk (Kd.S_after (ok := (fun k_ => some k_ ≠ (.slice Ao27 t261.length co27 : Value).ownBlock ∧ k_ ≠ gb273)) (by (with_reducible repeat (first | apply Kd.S_alloc | apply Kd.S_drewN | apply Kd.S_drew)); exact Kd.S_mono (Kd.S_far (p := ⟨gb273, 3, none⟩) (Kd.S_far (p := ⟨gb273, 2, none⟩) (Kd.S_far (p := ⟨gb273, 1, none⟩) (Kd.S_far (p := ⟨gb273, 0, none⟩) (Kd.S_mono HO_269000.out (fun k_ hk => (⟨hk, hk.2⟩ : _ ∧ k_ ≠ gb273))) (fun _ hk => hk.2) (.slice A272_0 ((rd_T39 l0_0 x34_2).f0).length c272_0)) (fun _ hk => hk.2) (.int .i64 ((rd_T39 l0_0 x34_2).f1))) (fun _ hk => hk.2) (.int .i64 ((rd_T39 l0_0 x34_2).f2))) (fun _ hk => hk.2) (.int .i64 ((rd_T39 l0_0 x34_2).f3))) (fun _ hk => ⟨⟨hk.1.1.2, hk.1.2⟩, hk.1.1.1⟩)) hg hat); replace HO_269001 := Aside0.mk (Kd.R_after (ok := (fun _ => True)) (by (with_reducible repeat (first | apply Kd.R_alloc | apply Kd.R_drewN | apply Kd.R_drew)); exact Kd.R_mono (Kd.R_far (p := ⟨gb273, 3, none⟩) (Kd.R_far (p := ⟨gb273, 2, none⟩) (Kd.R_far (p := ⟨gb273, 1, none⟩) (Kd.R_far (p := ⟨gb273, 0, none⟩) (Kd.R_types HO_269001.out BK273.out (by decide)) (fun _ hk => hk.2) (.slice A272_0 ((rd_T39 l0_0 x34_2).f0).length c272_0)) (fun _ hk => hk.2) (.int .i64 ((rd_T39 l0_0 x34_2).f1))) (fun _ hk => hk.2) (.int .i64 ((rd_T39 l0_0 x34_2).f2))) (fun _ hk => hk.2) (.int .i64 ((rd_T39 l0_0 x34_2).f3))) (fun _ hk => ⟨trivial, hk.1⟩)) hg hat); replace HO_269003 := Aside0.mk (Kd.R_over' (rF_ HO_269003 BK273) (Kd.R_typed (rF_ HO_7 BK273)) (by decide) hg); replace BK255 := Aside0.mk (blk_grown (g := gb255) (o := .cells #[.slice (some ad272) l0_0.length c0_0, .slice A0_1 l0_1.length c0_1, .int .i64 a0_2, .slice (some ad274) l0_3.length c0_3] 31 (0, 0)) (bF_ BK255 NB255_273) hg (Kd.R_ne HO_7.out BK255.out (by decide))); replace BK256 := Aside0.mk (blk_grown (g := gb256) (o := .cells #[.slice none 0 0, .slice none 0 0, .int .i64 0, .slice none 0 0] 31 (0, 0)) (bF_ BK256 NB256_273) hg (Kd.R_ne HO_7.out BK256.out (by decide))); replace BK268 := Aside0.mk (blk_grown (g := gb268) (o := .cells #[.slice Ao23 t258.length co23, .slice Ao27 t261.length co27, .int .i64 (wrap64 (t264 + (ji18))), .slice Ao28 t265.length co28] 31 (0, 0)) (bF_ BK268 NB268_273) hg (Kd.R_ne HO_7.out BK268.out (by decide))); replace BK273 := Aside0.mk (blk_grown (g := gb273) (o := .cells #[.slice A272_0 ((rd_T39 l0_0 x34_2).f0).length c272_0, .int .i64 ((rd_T39 l0_0 x34_2).f1), .int .i64 ((rd_T39 l0_0 x34_2).f2), .int .i64 ((rd_T39 l0_0 x34_2).f3)] 39 (0, 0)) (bP_ BK273) hg (Kd.R_ne HO_7.out BK273.out (by decide))); replace HB := Aside0.mk (hb); have HO277 := Aside0.mk (ho); clear HO_7; clear ho hb hg hat))
           go_roundg k2
           case measure => have := HJ2.out; have := HK2.out; omega
           case rel => exact ⟨(y275), (wrap64 (x34_2 + 1)), (by first | rfl | (simp; done) | (simp [*]; done)), H', ⟨by have := HJ2.out; have := HK2.out; omega⟩, ⟨rT_ HO277⟩, ⟨sM2_ HO_269000⟩, ⟨rM2_ HO_269001⟩, ⟨rT_ HO_269003⟩, ⟨bT_ BK255⟩, ⟨bT_ BK256⟩, ⟨bT_ BK268⟩, ⟨sABelo_11⟩⟩
          ·rw [if_neg c47] at H
           have c47b0 : decide (((rd_T39 l0_0 x34_2).f2) < (wrap64 (t264 + (ji18)))) = false := decide_eq_false c47
           clear c47; have H' := Aside0.mk H; clear H
           have p272 : 0 ≤ (x34_2 : Int) := of_decide_eq_true (by first | (with_reducible assumption) | assumption)
           have q272 : x34_2 < (l0_0.length : Int) := of_decide_eq_true (by first | (with_reducible assumption) | assumption)
           obtain ⟨ad272, A272_0, c272_0, e272, hx272_0, hx272_1, hx272_2, hx272_3, hl272_0, hi272_0⟩ := at_T39 HR0_0.out x34_2 p272 q272
           cases e272
           replace hx272_0 := (HB.out.cell (World.block_lt_of_cell? w _ hx272_0)).trans hx272_0
           replace hx272_1 := (HB.out.cell (World.block_lt_of_cell? w _ hx272_1)).trans hx272_1
           replace hx272_2 := (HB.out.cell (World.block_lt_of_cell? w _ hx272_2)).trans hx272_2
           replace hx272_3 := (HB.out.cell (World.block_lt_of_cell? w _ hx272_3)).trans hx272_3
           have HR272_0 := Aside0.mk hi272_0; have HC272_0 := Aside0.mk hl272_0; clear hi272_0 hl272_0; replace p272 := eq_true p272; replace q272 := eq_true q272
           go_wp2_with (first | ((with_reducible refine gate_dst (N := 9) rfl ?_); refine box_event ?hg (N := 9) ?hd (cs := #[.slice none 0 0, .int .i64 0, .int .i64 0, .int .i64 0]) (t := 39) ?hr ?_; (case hd => rfl); (case hg => rfl); (case hr => first | (go_simp; done) | (go_simp; rfl)); intro gb273 hg w60 hbox hb; replace HO_7 := rB_ HO_7 hb; replace HO_269000 := Aside0.mk (Kd.S_below (Kd.S_elderB (sT_ HO_269000) gb273 (Nat.le_of_eq hg.symm)) hb); replace HO_269001 := rB_ HO_269001 hb; replace HO_269003 := rB_ HO_269003 hb; have BK273 := Aside0.mk (hbox); have GW273 := gE_ HB hg; have GE273 := gE_ HB hg; replace HB := bS_ HB hb; have NB255_273 := nL_ BK255 hg; have NB273_255 := nG_ BK255 hg; replace BK255 := bB_ BK255 hb; have NB256_273 := nL_ BK256 hg; have NB273_256 := nG_ BK256 hg; replace BK256 := bB_ BK256 hb; have NB268_273 := nL_ BK268 hg; have NB273_268 := nG_ BK268 hg; replace BK268 := bB_ BK268 hb; clear hb hbox hg; have hnb61 := NB273_255.out; have hnc61 := NB255_273.out; have hnb62 := NB273_256.out; have hnc62 := NB256_273.out; have hnb63 := NB273_268.out; have hnc63 := NB268_273.out; obtain ⟨hcz64_0, hcz64_1, hcz64_2, hcz64_3, hfz64_0, hfz64_1, hfz64_2, hfz64_3⟩ := cf4_ BK273; have hnb65 := NB255_256.out; have hnc65 := NB256_255.out; have hnb66 := NB255_268.out; have hnc66 := NB268_255.out; obtain ⟨hcz67_0, hcz67_1, hcz67_2, hcz67_3, hfz67_0, hfz67_1, hfz67_2, hfz67_3⟩ := cf4_ BK255; have p274 : 0 ≤ (x34_2 : Int) := of_decide_eq_true (by first | (with_reducible assumption) | assumption); have q274 : x34_2 < (l0_3.length : Int) := of_decide_eq_true (by first | (with_reducible assumption) | assumption); obtain ⟨ad274, e274, hx274_0, hx274_1⟩ := at_T43 HR0_3.out x34_2 p274 q274; cases e274; have hn274_0 : ad274.block ≠ gb273 := Nat.ne_of_lt (Nat.lt_of_lt_of_le (by have := World.block_lt_of_cell? _ _ hx274_0; first | rwa [add_block] at this | exact this) GW273.out); have hn274_1 : ad274.block ≠ gb273 := Nat.ne_of_lt (Nat.lt_of_lt_of_le (by have := World.block_lt_of_cell? _ _ hx274_0; first | rwa [add_block] at this | exact this) GW273.out); have hn274_2 : ad274.block ≠ gb273 := Nat.ne_of_lt (Nat.lt_of_lt_of_le (by have := World.block_lt_of_cell? _ _ hx274_0; first | rwa [add_block] at this | exact this) GW273.out); have hn274_3 : ad274.block ≠ gb273 := Nat.ne_of_lt (Nat.lt_of_lt_of_le (by have := World.block_lt_of_cell? _ _ hx274_0; first | rwa [add_block] at this | exact this) GW273.out); replace hx274_0 := (HB.out.cell (World.block_lt_of_cell? w _ hx274_0)).trans hx274_0; replace hx274_1 := (HB.out.cell (World.block_lt_of_cell? w _ hx274_1)).trans hx274_1; replace hx274_0 := (cell_far (p := ⟨gb273, 0, none⟩) (by first | (rw [add_block]; exact hn274_0) | (show (Addr.add _ _).block ≠ _; rw [add_block]; exact hn274_0) | exact hn274_0) (.slice A272_0 ((rd_T39 l0_0 x34_2).f0).length c272_0)).trans hx274_0; replace hx274_1 := (cell_far (p := ⟨gb273, 0, none⟩) (by first | (rw [add_block]; exact hn274_0) | (show (Addr.add _ _).block ≠ _; rw [add_block]; exact hn274_0) | exact hn274_0) (.slice A272_0 ((rd_T39 l0_0 x34_2).f0).length c272_0)).trans hx274_1; replace hx274_0 := (cell_far (p := ⟨gb273, 1, none⟩) (by first | (rw [add_block]; exact hn274_1) | (show (Addr.add _ _).block ≠ _; rw [add_block]; exact hn274_1) | exact hn274_1) (.int .i64 ((rd_T39 l0_0 x34_2).f1))).trans hx274_0; replace hx274_1 := (cell_far (p := ⟨gb273, 1, none⟩) (by first | (rw [add_block]; exact hn274_1) | (show (Addr.add _ _).block ≠ _; rw [add_block]; exact hn274_1) | exact hn274_1) (.int .i64 ((rd_T39 l0_0 x34_2).f1))).trans hx274_1; replace hx274_0 := (cell_far (p := ⟨gb273, 2, none⟩) (by first | (rw [add_block]; exact hn274_2) | (show (Addr.add _ _).block ≠ _; rw [add_block]; exact hn274_2) | exact hn274_2) (.int .i64 ((rd_T39 l0_0 x34_2).f2))).trans hx274_0; replace hx274_1 := (cell_far (p := ⟨gb273, 2, none⟩) (by first | (rw [add_block]; exact hn274_2) | (show (Addr.add _ _).block ≠ _; rw [add_block]; exact hn274_2) | exact hn274_2) (.int .i64 ((rd_T39 l0_0 x34_2).f2))).trans hx274_1; replace hx274_0 := (cell_far (p := ⟨gb273, 3, none⟩) (by first | (rw [add_block]; exact hn274_3) | (show (Addr.add _ _).block ≠ _; rw [add_block]; exact hn274_3) | exact hn274_3) (.int .i64 ((rd_T39 l0_0 x34_2).f3))).trans hx274_0; replace hx274_1 := (cell_far (p := ⟨gb273, 3, none⟩) (by first | (rw [add_block]; exact hn274_3) | (show (Addr.add _ _).block ≠ _; rw [add_block]; exact hn274_3) | exact hn274_3) (.int .i64 ((rd_T39 l0_0 x34_2).f3))).trans hx274_1; clear hn274_0; clear hn274_1; clear hn274_2; clear hn274_3; replace p274 := eq_true p274; replace q274 := eq_true q274; have hnb68 := NB268_256.out; have hnc68 := NB256_268.out; obtain ⟨hcz69_0, hcz69_1, hcz69_2, hcz69_3, hfz69_0, hfz69_1, hfz69_2, hfz69_3⟩ := cf4_ BK268))
           go_roundg k2
           case measure => have := HJ2.out; have := HK2.out; omega
           case rel => exact ⟨(x7_2), (wrap64 (x34_2 + 1)), (by first | rfl | (simp; done) | (simp [*]; done)), H', ⟨by have := HJ2.out; have := HK2.out; omega⟩, ⟨rFM_ HO_7 BK273⟩, ⟨sFN_ HO_269000⟩, ⟨rFM_ HO_269001 BK273⟩, ⟨rFM_ HO_269003 BK273⟩, ⟨bF_ BK255 NB255_273⟩, ⟨bF_ BK256 NB256_273⟩, ⟨bF_ BK268 NB268_273⟩, ⟨sABelo_11⟩⟩
         ·rw [if_neg c46] at H
          have c46b0 : decide (a0_2 ≤ ((rd_T39 l0_0 x34_2).f2)) = false := decide_eq_false c46
          clear c46; have H' := Aside0.mk H; clear H
          have p272 : 0 ≤ (x34_2 : Int) := of_decide_eq_true (by first | (with_reducible assumption) | assumption)
          have q272 : x34_2 < (l0_0.length : Int) := of_decide_eq_true (by first | (with_reducible assumption) | assumption)
          obtain ⟨ad272, A272_0, c272_0, e272, hx272_0, hx272_1, hx272_2, hx272_3, hl272_0, hi272_0⟩ := at_T39 HR0_0.out x34_2 p272 q272
          cases e272
          replace hx272_0 := (HB.out.cell (World.block_lt_of_cell? w _ hx272_0)).trans hx272_0
          replace hx272_1 := (HB.out.cell (World.block_lt_of_cell? w _ hx272_1)).trans hx272_1
          replace hx272_2 := (HB.out.cell (World.block_lt_of_cell? w _ hx272_2)).trans hx272_2
          replace hx272_3 := (HB.out.cell (World.block_lt_of_cell? w _ hx272_3)).trans hx272_3
          have HR272_0 := Aside0.mk hi272_0; have HC272_0 := Aside0.mk hl272_0; clear hi272_0 hl272_0; replace p272 := eq_true p272; replace q272 := eq_true q272
          go_wp2_with (first | ((with_reducible refine gate_dst (N := 9) rfl ?_); refine box_event ?hg (N := 9) ?hd (cs := #[.slice none 0 0, .int .i64 0, .int .i64 0, .int .i64 0]) (t := 39) ?hr ?_; (case hd => rfl); (case hg => rfl); (case hr => first | (go_simp; done) | (go_simp; rfl)); intro gb273 hg w70 hbox hb; replace HO_7 := rB_ HO_7 hb; replace HO_269000 := Aside0.mk (Kd.S_below (Kd.S_elderB (sT_ HO_269000) gb273 (Nat.le_of_eq hg.symm)) hb); replace HO_269001 := rB_ HO_269001 hb; replace HO_269003 := rB_ HO_269003 hb; have BK273 := Aside0.mk (hbox); have GW273 := gE_ HB hg; have GE273 := gE_ HB hg; replace HB := bS_ HB hb; have NB255_273 := nL_ BK255 hg; have NB273_255 := nG_ BK255 hg; replace BK255 := bB_ BK255 hb; have NB256_273 := nL_ BK256 hg; have NB273_256 := nG_ BK256 hg; replace BK256 := bB_ BK256 hb; have NB268_273 := nL_ BK268 hg; have NB273_268 := nG_ BK268 hg; replace BK268 := bB_ BK268 hb; clear hb hbox hg; have hnb71 := NB273_255.out; have hnc71 := NB255_273.out; have hnb72 := NB273_256.out; have hnc72 := NB256_273.out; have hnb73 := NB273_268.out; have hnc73 := NB268_273.out; obtain ⟨hcz74_0, hcz74_1, hcz74_2, hcz74_3, hfz74_0, hfz74_1, hfz74_2, hfz74_3⟩ := cf4_ BK273; have hnb75 := NB255_256.out; have hnc75 := NB256_255.out; have hnb76 := NB255_268.out; have hnc76 := NB268_255.out; obtain ⟨hcz77_0, hcz77_1, hcz77_2, hcz77_3, hfz77_0, hfz77_1, hfz77_2, hfz77_3⟩ := cf4_ BK255; have p274 : 0 ≤ (x34_2 : Int) := of_decide_eq_true (by first | (with_reducible assumption) | assumption); have q274 : x34_2 < (l0_3.length : Int) := of_decide_eq_true (by first | (with_reducible assumption) | assumption); obtain ⟨ad274, e274, hx274_0, hx274_1⟩ := at_T43 HR0_3.out x34_2 p274 q274; cases e274; have hn274_0 : ad274.block ≠ gb273 := Nat.ne_of_lt (Nat.lt_of_lt_of_le (by have := World.block_lt_of_cell? _ _ hx274_0; first | rwa [add_block] at this | exact this) GW273.out); have hn274_1 : ad274.block ≠ gb273 := Nat.ne_of_lt (Nat.lt_of_lt_of_le (by have := World.block_lt_of_cell? _ _ hx274_0; first | rwa [add_block] at this | exact this) GW273.out); have hn274_2 : ad274.block ≠ gb273 := Nat.ne_of_lt (Nat.lt_of_lt_of_le (by have := World.block_lt_of_cell? _ _ hx274_0; first | rwa [add_block] at this | exact this) GW273.out); have hn274_3 : ad274.block ≠ gb273 := Nat.ne_of_lt (Nat.lt_of_lt_of_le (by have := World.block_lt_of_cell? _ _ hx274_0; first | rwa [add_block] at this | exact this) GW273.out); replace hx274_0 := (HB.out.cell (World.block_lt_of_cell? w _ hx274_0)).trans hx274_0; replace hx274_1 := (HB.out.cell (World.block_lt_of_cell? w _ hx274_1)).trans hx274_1; replace hx274_0 := (cell_far (p := ⟨gb273, 0, none⟩) (by first | (rw [add_block]; exact hn274_0) | (show (Addr.add _ _).block ≠ _; rw [add_block]; exact hn274_0) | exact hn274_0) (.slice A272_0 ((rd_T39 l0_0 x34_2).f0).length c272_0)).trans hx274_0; replace hx274_1 := (cell_far (p := ⟨gb273, 0, none⟩) (by first | (rw [add_block]; exact hn274_0) | (show (Addr.add _ _).block ≠ _; rw [add_block]; exact hn274_0) | exact hn274_0) (.slice A272_0 ((rd_T39 l0_0 x34_2).f0).length c272_0)).trans hx274_1; replace hx274_0 := (cell_far (p := ⟨gb273, 1, none⟩) (by first | (rw [add_block]; exact hn274_1) | (show (Addr.add _ _).block ≠ _; rw [add_block]; exact hn274_1) | exact hn274_1) (.int .i64 ((rd_T39 l0_0 x34_2).f1))).trans hx274_0; replace hx274_1 := (cell_far (p := ⟨gb273, 1, none⟩) (by first | (rw [add_block]; exact hn274_1) | (show (Addr.add _ _).block ≠ _; rw [add_block]; exact hn274_1) | exact hn274_1) (.int .i64 ((rd_T39 l0_0 x34_2).f1))).trans hx274_1; replace hx274_0 := (cell_far (p := ⟨gb273, 2, none⟩) (by first | (rw [add_block]; exact hn274_2) | (show (Addr.add _ _).block ≠ _; rw [add_block]; exact hn274_2) | exact hn274_2) (.int .i64 ((rd_T39 l0_0 x34_2).f2))).trans hx274_0; replace hx274_1 := (cell_far (p := ⟨gb273, 2, none⟩) (by first | (rw [add_block]; exact hn274_2) | (show (Addr.add _ _).block ≠ _; rw [add_block]; exact hn274_2) | exact hn274_2) (.int .i64 ((rd_T39 l0_0 x34_2).f2))).trans hx274_1; replace hx274_0 := (cell_far (p := ⟨gb273, 3, none⟩) (by first | (rw [add_block]; exact hn274_3) | (show (Addr.add _ _).block ≠ _; rw [add_block]; exact hn274_3) | exact hn274_3) (.int .i64 ((rd_T39 l0_0 x34_2).f3))).trans hx274_0; replace hx274_1 := (cell_far (p := ⟨gb273, 3, none⟩) (by first | (rw [add_block]; exact hn274_3) | (show (Addr.add _ _).block ≠ _; rw [add_block]; exact hn274_3) | exact hn274_3) (.int .i64 ((rd_T39 l0_0 x34_2).f3))).trans hx274_1; clear hn274_0; clear hn274_1; clear hn274_2; clear hn274_3; replace p274 := eq_true p274; replace q274 := eq_true q274))
          go_roundg k2
          case measure => have := HJ2.out; have := HK2.out; omega
          case rel => exact ⟨(x7_2), (wrap64 (x34_2 + 1)), (by first | rfl | (simp; done) | (simp [*]; done)), H', ⟨by have := HJ2.out; have := HK2.out; omega⟩, ⟨rFM_ HO_7 BK273⟩, ⟨sFN_ HO_269000⟩, ⟨rFM_ HO_269001 BK273⟩, ⟨rFM_ HO_269003 BK273⟩, ⟨bF_ BK255 NB255_273⟩, ⟨bF_ BK256 NB256_273⟩, ⟨bF_ BK268 NB268_273⟩, ⟨sABelo_11⟩⟩
       ·rw [if_neg c35] at H
        have c35b0 : decide (0 < ((rd_T39 l0_0 x34_2).f2)) = false := decide_eq_false c35
        clear c35; have H' := Aside0.mk H; clear H
        have p272 : 0 ≤ (x34_2 : Int) := of_decide_eq_true (by first | (with_reducible assumption) | assumption)
        have q272 : x34_2 < (l0_0.length : Int) := of_decide_eq_true (by first | (with_reducible assumption) | assumption)
        obtain ⟨ad272, A272_0, c272_0, e272, hx272_0, hx272_1, hx272_2, hx272_3, hl272_0, hi272_0⟩ := at_T39 HR0_0.out x34_2 p272 q272
        cases e272
        replace hx272_0 := (HB.out.cell (World.block_lt_of_cell? w _ hx272_0)).trans hx272_0
        replace hx272_1 := (HB.out.cell (World.block_lt_of_cell? w _ hx272_1)).trans hx272_1
        replace hx272_2 := (HB.out.cell (World.block_lt_of_cell? w _ hx272_2)).trans hx272_2
        replace hx272_3 := (HB.out.cell (World.block_lt_of_cell? w _ hx272_3)).trans hx272_3
        have HR272_0 := Aside0.mk hi272_0; have HC272_0 := Aside0.mk hl272_0; clear hi272_0 hl272_0; replace p272 := eq_true p272; replace q272 := eq_true q272
        go_wp2_with (first | ((with_reducible refine gate_dst (N := 9) rfl ?_); refine box_event ?hg (N := 9) ?hd (cs := #[.slice none 0 0, .int .i64 0, .int .i64 0, .int .i64 0]) (t := 39) ?hr ?_; (case hd => rfl); (case hg => rfl); (case hr => first | (go_simp; done) | (go_simp; rfl)); intro gb273 hg w78 hbox hb; replace HO_7 := rB_ HO_7 hb; replace HO_269000 := Aside0.mk (Kd.S_below (Kd.S_elderB (sT_ HO_269000) gb273 (Nat.le_of_eq hg.symm)) hb); replace HO_269001 := rB_ HO_269001 hb; replace HO_269003 := rB_ HO_269003 hb; have BK273 := Aside0.mk (hbox); have GW273 := gE_ HB hg; have GE273 := gE_ HB hg; replace HB := bS_ HB hb; have NB255_273 := nL_ BK255 hg; have NB273_255 := nG_ BK255 hg; replace BK255 := bB_ BK255 hb; have NB256_273 := nL_ BK256 hg; have NB273_256 := nG_ BK256 hg; replace BK256 := bB_ BK256 hb; have NB268_273 := nL_ BK268 hg; have NB273_268 := nG_ BK268 hg; replace BK268 := bB_ BK268 hb; clear hb hbox hg; have hnb79 := NB273_255.out; have hnc79 := NB255_273.out; have hnb80 := NB273_256.out; have hnc80 := NB256_273.out; have hnb81 := NB273_268.out; have hnc81 := NB268_273.out; obtain ⟨hcz82_0, hcz82_1, hcz82_2, hcz82_3, hfz82_0, hfz82_1, hfz82_2, hfz82_3⟩ := cf4_ BK273))
        go_roundg k2
        case measure => have := HJ2.out; have := HK2.out; omega
        case rel => exact ⟨(x7_2), (wrap64 (x34_2 + 1)), (by first | rfl | (simp; done) | (simp [*]; done)), H', ⟨by have := HJ2.out; have := HK2.out; omega⟩, ⟨rFM_ HO_7 BK273⟩, ⟨sFN_ HO_269000⟩, ⟨rFM_ HO_269001 BK273⟩, ⟨rFM_ HO_269003 BK273⟩, ⟨bF_ BK255 NB255_273⟩, ⟨bF_ BK256 NB256_273⟩, ⟨bF_ BK268 NB268_273⟩, ⟨sABelo_11⟩⟩
      ·rw [if_neg c32] at H
       have c32b0 : decide (x34_2 < (l0_0.length : Int)) = false := decide_eq_false c32
       clear c32
       simp only [Option.some.injEq, Prod.mk.injEq] at H
       obtain ⟨rfl, rfl, rfl, rfl, rfl⟩ := H
       have hnb83 := NB268_255.out; have hnc83 := NB255_268.out; have hnb84 := NB268_256.out; have hnc84 := NB256_268.out
       obtain ⟨hcz85_0, hcz85_1, hcz85_2, hcz85_3, hfz85_0, hfz85_1, hfz85_2, hfz85_3⟩ := cf4_ BK268; have hnb86 := NB256_255.out; have hnc86 := NB255_256.out
       obtain ⟨hcz87_0, hcz87_1, hcz87_2, hcz87_3, hfz87_0, hfz87_1, hfz87_2, hfz87_3⟩ := cf4_ BK256
       go_wp2
       refine bodyPost_ret (results_ct rfl _ _ gb256 31 #[.slice Ao23 t258.length co23, .slice Ao27 t261.length co27, .int .i64 (wrap64 (t264 + (ji18))), .slice Ao28 t265.length co28] (0, 0) _ rfl (bP_ BK256) Try.underlying31 rfl (by kernel_rfl)) rfl ?_
       exact ⟨_, _, _, _, by first | rfl | (simp [errW_none, errW_some] <;> rfl) | (simp only [← hji18]; first | rfl | (simp [errW_none, errW_some] <;> rfl)) | (simp [*, errW_none, errW_some] <;> rfl), by (with_reducible repeat (first | apply Kd.S_alloc | apply Kd.S_drewN | apply Kd.S_drew)); exact Kd.S_mono (Kd.S_far (p := ⟨gb256, 3, none⟩) (Kd.S_far (p := ⟨gb256, 2, none⟩) (Kd.S_far (p := ⟨gb256, 1, none⟩) (Kd.S_far (p := ⟨gb256, 0, none⟩) (Kd.S_types HO_269000.out BK256.out (by decide)) (fun _ hk => hk.2) (.slice Ao23 t258.length co23)) (fun _ hk => hk.2) (.slice Ao27 t261.length co27)) (fun _ hk => hk.2) (.int .i64 (wrap64 (t264 + (ji18))))) (fun _ hk => hk.2) (.slice Ao28 t265.length co28)) (fun _ hk => ⟨hk.1.2, hk.1.1⟩), by (with_reducible repeat (first | apply Kd.R_alloc | apply Kd.R_drewN | apply Kd.R_drew)); exact Kd.R_mono (Kd.R_far (p := ⟨gb256, 3, none⟩) (Kd.R_far (p := ⟨gb256, 2, none⟩) (Kd.R_far (p := ⟨gb256, 1, none⟩) (Kd.R_far (p := ⟨gb256, 0, none⟩) (Kd.R_types HO_269001.out BK256.out (by decide)) (fun _ hk => hk.2) (.slice Ao23 t258.length co23)) (fun _ hk => hk.2) (.slice Ao27 t261.length co27)) (fun _ hk => hk.2) (.int .i64 (wrap64 (t264 + (ji18))))) (fun _ hk => hk.2) (.slice Ao28 t265.length co28)) (fun _ hk => hk.1), by (with_reducible repeat (first | apply Kd.R_alloc | apply Kd.R_drewN | apply Kd.R_drew)); exact Kd.R_mono (Kd.R_far (p := ⟨gb256, 3, none⟩) (Kd.R_far (p := ⟨gb256, 2, none⟩) (Kd.R_far (p := ⟨gb256, 1, none⟩) (Kd.R_far (p := ⟨gb256, 0, none⟩) (Kd.R_types HO_269003.out BK256.out (by decide)) (fun _ hk => hk.2) (.slice Ao23 t258.length co23)) (fun _ hk => hk.2) (.slice Ao27 t261.length co27)) (fun _ hk => hk.2) (.int .i64 (wrap64 (t264 + (ji18))))) (fun _ hk => hk.2) (.slice Ao28 t265.length co28)) (fun _ hk => trivial), by (with_reducible repeat (first | apply Kd.R_alloc | apply Kd.R_drewN | apply Kd.R_drew)); exact Kd.R_mono (Kd.R_far (p := ⟨gb256, 3, none⟩) (Kd.R_far (p := ⟨gb256, 2, none⟩) (Kd.R_far (p := ⟨gb256, 1, none⟩) (Kd.R_far (p := ⟨gb256, 0, none⟩) (Kd.R_types HO_7.out BK256.out (by decide)) (fun _ hk => hk.2) (.slice Ao23 t258.length co23)) (fun _ hk => hk.2) (.slice Ao27 t261.length co27)) (fun _ hk => hk.2) (.int .i64 (wrap64 (t264 + (ji18))))) (fun _ hk => hk.2) (.slice Ao28 t265.length co28)) (fun _ hk => hk.1), sABelo_11⟩

/-! ### laws_eqInt64S: function 37 -/
def laws_eqInt64S.l0 : Nat → List Int → List Int → Int → Option (Bool)
 | 0, _, _, _ => none
 | k + 1, x0, x1, x5 => if x5 < (x0.length : Int) then (if 0 ≤ x5 then (if x5 < (x1.length : Int) then (if (rd x0 x5) = (rd x1 x5) then (laws_eqInt64S.l0 k x0 x1 (wrap64 (x5 + 1))) else (some false)) else (none)) else (none)) else (some true)
def laws_eqInt64S.f (k : Nat) (l0 : List Int) (l1 : List Int) : Option (Bool) := if (l0.length : Int) = (l1.length : Int) then (laws_eqInt64S.l0 k l0 l1 0) else (some false)
theorem laws_eqInt64S.mono_l : ∀ k, (∀ y0 y1 y2, LeO (laws_eqInt64S.l0 k y0 y1 y2) (laws_eqInt64S.l0 (k + 1) y0 y1 y2))
 | 0 => fun _ _ _ r h => by simp [laws_eqInt64S.l0] at h
 | k + 1 => by
  have ih0 := laws_eqInt64S.mono_l k
  ·intro y0 y1 y2
   unfold laws_eqInt64S.l0
   repeat' first
   | (with_reducible exact ih0 _ _ _)
   | (with_reducible exact LeO.refl _)
   | (with_reducible exact LeO.none _)
   | (with_reducible refine LeO.ite ?_ ?_)
   | (with_reducible refine LeO.bind ?_ (fun _ => ?_))
   | exact ih0 _ _ _
   | exact LeO.none _
   | refine LeO.ite ?_ ?_
   | refine LeO.bind ?_ (fun _ => ?_)
theorem laws_eqInt64S.mono : ∀ a0 a1 k, LeO (laws_eqInt64S.f k a0 a1) (laws_eqInt64S.f (k + 1) a0 a1) := by
 intro a0 a1 k
 have ih0 := laws_eqInt64S.mono_l k
 unfold laws_eqInt64S.f
 repeat' first
   | (with_reducible exact ih0 _ _ _)
   | (with_reducible exact LeO.refl _)
   | (with_reducible exact LeO.none _)
   | (with_reducible refine LeO.ite ?_ ?_)
   | (with_reducible refine LeO.bind ?_ (fun _ => ?_))
   | exact ih0 _ _ _
   | exact LeO.none _
   | refine LeO.ite ?_ ?_
   | refine LeO.bind ?_ (fun _ => ?_)
set_option maxHeartbeats 8000000 in
set_option maxRecDepth 100000 in
theorem laws_eqInt64S.calls (k : Nat) (A0 : Option Addr) (c0 : Nat) (l0 : List Int) (A1 : Option Addr) (c1 : Nat) (l1 : List Int) (r : Bool) (w : World) (hr0 : Kd.C (Kd.int .i64) w A0 l0.length l0) (hc0 : l0.length ≤ c0) (hr1 : Kd.C (Kd.int .i64) w A1 l1.length l1) (hc1 : l1.length ≤ c1) (h : laws_eqInt64S.f k l0 l1 = some r) :
  Calls Try.prog 37 #[.slice A0 l0.length c0, .slice A1 l1.length c1] w fun e w' => e = .returned (.bool r) ∧ Drawn0 w w' := by
 have HR0 := Aside0.mk hr0; have HC0 := Aside0.mk hc0; clear hr0 hc0; have HR1 := Aside0.mk hr1; have HC1 := Aside0.mk hc1; clear hr1 hc1
 have H : (if (l0.length : Int) = (l1.length : Int) then (laws_eqInt64S.l0 k l0 l1 0) else (some false)) = some r := h
 clear h
 by_cases c3 : (l0.length : Int) = (l1.length : Int)
 ·rw [if_pos c3] at H
  have c3b0 : ((l0.length : Int) == (l1.length : Int)) = true := beq_iff_eq.mpr c3
  have c3b1 : ((l0.length : Int) != (l1.length : Int)) = false := bne_eq_false_iff_eq.mpr c3
  have c3b2 : (l0.length == l1.length) = true := by first | simpa using c3 | (simp at c3 ⊢; omega)
  clear c3; have H' := Aside0.mk H; clear H
  go_enter Try.func37, Try.ntmps37
  go_wp2
  repeat (go_quiet (fail); try go_wp2)
  go_loopg [5] k (fun kq v5 w' => ∃ (x5_1 : Int), v5 = .int .i64 x5_1 ∧ Aside0 (laws_eqInt64S.l0 kq l0 l1 x5_1 = some r) ∧ Aside0 (kq ≤ k) ∧ Drawn0 w w')
  case atStart => exact ⟨(0), (by first | rfl | (simp; done) | (simp [*]; done)), H', ⟨Nat.le_refl _⟩, by repeat (first | exact Drawn0.refl _ | apply Drawn0.step)⟩
  case round =>
   clear H'; (try clear c1); (try clear c3); (try clear c3b0); (try clear c3b1); (try clear c3b2)
   obtain ⟨x5_1, rfl, HA, HK1, ⟨m1, rfl⟩⟩ := hrel
   cases gk with
   | zero => exact absurd HA.out (by simp [laws_eqInt64S.l0])
   | succ k1 =>
    have H := HA.out; clear HA
    simp only [laws_eqInt64S.l0] at H
    by_cases c4 : x5_1 < (l0.length : Int)
    ·rw [if_pos c4] at H
     have c4b0 : decide (x5_1 < (l0.length : Int)) = true := decide_eq_true c4
     clear c4
     obtain ⟨c5, H⟩ := ifS_ H
     have c5b0 : decide (0 ≤ x5_1) = true := decide_eq_true c5
     clear c5
     obtain ⟨c6, H⟩ := ifS_ H
     have c6b0 : decide (x5_1 < (l1.length : Int)) = true := decide_eq_true c6
     clear c6
     by_cases c7 : (rd l0 x5_1) = (rd l1 x5_1)
     ·rw [if_pos c7] at H
      have c7b0 : ((rd l0 x5_1) == (rd l1 x5_1)) = true := beq_iff_eq.mpr c7
      have c7b1 : ((rd l0 x5_1) != (rd l1 x5_1)) = false := bne_eq_false_iff_eq.mpr c7
      clear c7; have H' := Aside0.mk H; clear H
      have p278 : 0 ≤ (x5_1 : Int) := of_decide_eq_true (by first | (with_reducible assumption) | assumption)
      have q278 : x5_1 < (l0.length : Int) := of_decide_eq_true (by first | (with_reducible assumption) | assumption)
      obtain ⟨ad278, e278, hx278_0⟩ := Kd.at_int HR0.out x5_1 p278 q278
      cases e278
      replace p278 := eq_true p278; replace q278 := eq_true q278
      have p279 : 0 ≤ (x5_1 : Int) := of_decide_eq_true (by first | (with_reducible assumption) | assumption)
      have q279 : x5_1 < (l1.length : Int) := of_decide_eq_true (by first | (with_reducible assumption) | assumption)
      obtain ⟨ad279, e279, hx279_0⟩ := Kd.at_int HR1.out x5_1 p279 q279
      cases e279
      replace p279 := eq_true p279; replace q279 := eq_true q279
      go_wp2
      repeat (go_quiet (fail); try go_wp2)
      go_roundg k1
      case measure => have := HK1.out; omega
      case rel => exact ⟨(wrap64 (x5_1 + 1)), (by first | rfl | (simp; done) | (simp [*]; done)), H', ⟨by have := HK1.out; omega⟩, by repeat (first | exact Drawn0.refl _ | apply Drawn0.step)⟩
     ·rw [if_neg c7] at H
      have c7b0 : ((rd l0 x5_1) == (rd l1 x5_1)) = false := beq_eq_false_iff_ne.mpr c7
      have c7b1 : ((rd l0 x5_1) != (rd l1 x5_1)) = true := bne_iff_ne.mpr c7
      obtain rfl := Option.some.inj H
      have p278 : 0 ≤ (x5_1 : Int) := of_decide_eq_true (by first | (with_reducible assumption) | assumption)
      have q278 : x5_1 < (l0.length : Int) := of_decide_eq_true (by first | (with_reducible assumption) | assumption)
      obtain ⟨ad278, e278, hx278_0⟩ := Kd.at_int HR0.out x5_1 p278 q278
      cases e278
      replace p278 := eq_true p278; replace q278 := eq_true q278
      have p279 : 0 ≤ (x5_1 : Int) := of_decide_eq_true (by first | (with_reducible assumption) | assumption)
      have q279 : x5_1 < (l1.length : Int) := of_decide_eq_true (by first | (with_reducible assumption) | assumption)
      obtain ⟨ad279, e279, hx279_0⟩ := Kd.at_int HR1.out x5_1 p279 q279
      cases e279
      replace p279 := eq_true p279; replace q279 := eq_true q279
      go_wp2
      repeat (go_quiet (fail); try go_wp2)
      go_ret
      exact ⟨by first | rfl | (simp; done) | (simp [*]; done), by repeat (first | exact Drawn0.refl _ | apply Drawn0.step)⟩
    ·rw [if_neg c4] at H
     have c4b0 : decide (x5_1 < (l0.length : Int)) = false := decide_eq_false c4
     clear c4
     obtain rfl := Option.some.inj H
     go_wp2
     repeat (go_quiet (fail); try go_wp2)
     go_ret
     exact ⟨by first | rfl | (simp; done) | (simp [*]; done), by repeat (first | exact Drawn0.refl _ | apply Drawn0.step)⟩
 ·rw [if_neg c3] at H
  have c3b0 : ((l0.length : Int) == (l1.length : Int)) = false := beq_eq_false_iff_ne.mpr c3
  have c3b1 : ((l0.length : Int) != (l1.length : Int)) = true := bne_iff_ne.mpr c3
  have c3b2 : (l0.length == l1.length) = false := by first | simpa using c3 | (simp at c3 ⊢; omega)
  obtain rfl := Option.some.inj H
  go_enter Try.func37, Try.ntmps37
  go_wp2
  repeat (go_quiet (fail); try go_wp2)
  go_ret
  exact ⟨by first | rfl | (simp; done) | (simp [*]; done), by repeat (first | exact Drawn0.refl _ | apply Drawn0.step)⟩

/-! ### laws_eqTask: function 88 -/
def laws_eqTask.f (k : Nat) (l0_0 : List Int) (a0_1 : Int) (a0_2 : Int) (a0_3 : Int) (l1_0 : List Int) (a1_1 : Int) (a1_2 : Int) (a1_3 : Int) : Option (Bool) := (laws_eqInt64S.f k l0_0 l1_0).bind fun t282 => (if t282 = true then (if a0_1 = a1_1 then (if a0_2 = a1_2 then (if a0_3 = a1_3 then (some true) else (some false)) else (some false)) else (some false)) else (some false))
theorem laws_eqTask.mono : ∀ a0 a1 a2 a3 a4 a5 a6 a7 k, LeO (laws_eqTask.f k a0 a1 a2 a3 a4 a5 a6 a7) (laws_eqTask.f (k + 1) a0 a1 a2 a3 a4 a5 a6 a7) := by
 intro a0 a1 a2 a3 a4 a5 a6 a7 k
 unfold laws_eqTask.f
 repeat' first
   | (with_reducible exact laws_eqInt64S.mono _ _ _)
   | (with_reducible exact LeO.refl _)
   | (with_reducible exact LeO.none _)
   | (with_reducible refine LeO.ite ?_ ?_)
   | (with_reducible refine LeO.bind ?_ (fun _ => ?_))
   | exact laws_eqInt64S.mono _ _ _
   | exact LeO.none _
   | refine LeO.ite ?_ ?_
   | refine LeO.bind ?_ (fun _ => ?_)
set_option maxHeartbeats 8000000 in
set_option maxRecDepth 100000 in
theorem laws_eqTask.calls (k : Nat) (A0_0 : Option Addr) (c0_0 : Nat) (l0_0 : List Int) (a0_1 : Int) (a0_2 : Int) (a0_3 : Int) (A1_0 : Option Addr) (c1_0 : Nat) (l1_0 : List Int) (a1_1 : Int) (a1_2 : Int) (a1_3 : Int) (r : Bool) (w : World) (hr0_0 : Kd.C (Kd.int .i64) w A0_0 l0_0.length l0_0) (hc0_0 : l0_0.length ≤ c0_0) (hr1_0 : Kd.C (Kd.int .i64) w A1_0 l1_0.length l1_0) (hc1_0 : l1_0.length ≤ c1_0) (h : laws_eqTask.f k l0_0 a0_1 a0_2 a0_3 l1_0 a1_1 a1_2 a1_3 = some r) :
  Calls Try.prog 88 #[.agg #[.slice A0_0 l0_0.length c0_0, .int .i64 a0_1, .int .i64 a0_2, .int .i64 a0_3], .agg #[.slice A1_0 l1_0.length c1_0, .int .i64 a1_1, .int .i64 a1_2, .int .i64 a1_3]] w fun e w' => e = .returned (.bool r) ∧ Below w.heap.size w w' := by
 have hu39 := Try.underlying39; have HR0_0 := Aside0.mk hr0_0; have HC0_0 := Aside0.mk hc0_0; clear hr0_0 hc0_0; have HR1_0 := Aside0.mk hr1_0; have HC1_0 := Aside0.mk hc1_0; clear hr1_0 hc1_0
 have HB := Aside0.mk (Below.refl w.heap.size w)
 have H : ((laws_eqInt64S.f k l0_0 l1_0).bind fun t282 => (if t282 = true then (if a0_1 = a1_1 then (if a0_2 = a1_2 then (if a0_3 = a1_3 then (some true) else (some false)) else (some false)) else (some false)) else (some false))) = some r := h
 clear h; replace H := Option.bind_eq_some_iff.mp H
 obtain ⟨t282, A30, H⟩ := H
 replace H : (if t282 = true then (if a0_1 = a1_1 then (if a0_2 = a1_2 then (if a0_3 = a1_3 then (some true) else (some false)) else (some false)) else (some false)) else (some false)) = some r := H
 have A3 := Aside0.mk A30; clear A30
 by_cases c4 : t282 = true
 ·subst c4
  replace H := ifT_ H
  by_cases c5 : a0_1 = a1_1
  ·rw [if_pos c5] at H
   have c5b0 : (a0_1 == a1_1) = true := beq_iff_eq.mpr c5
   have c5b1 : (a0_1 != a1_1) = false := bne_eq_false_iff_eq.mpr c5
   clear c5
   by_cases c6 : a0_2 = a1_2
   ·rw [if_pos c6] at H
    have c6b0 : (a0_2 == a1_2) = true := beq_iff_eq.mpr c6
    have c6b1 : (a0_2 != a1_2) = false := bne_eq_false_iff_eq.mpr c6
    clear c6
    by_cases c7 : a0_3 = a1_3
    ·rw [if_pos c7] at H
     have c7b0 : (a0_3 == a1_3) = true := beq_iff_eq.mpr c7
     have c7b1 : (a0_3 != a1_3) = false := bne_eq_false_iff_eq.mpr c7
     clear c7
     obtain rfl := Option.some.inj H
     go_enter Try.func88, Try.ntmps88
     go_wp2_with (first | ((with_reducible refine gate_dst (N := 2) rfl ?_); refine box_event ?hg (N := 2) ?hd (cs := #[.slice A0_0 l0_0.length c0_0, .int .i64 a0_1, .int .i64 a0_2, .int .i64 a0_3]) (t := 39) ?hr ?_; (case hd => rfl); (case hg => rfl); (case hr => first | (go_simp; done) | (go_simp; rfl)); intro gb280 hg w8 hbox hb; have BK280 := Aside0.mk (hbox); have GW280 := gE_ HB hg; have GE280 := gE_ HB hg; replace HB := bS_ HB hb; clear hb hbox hg) | ((with_reducible refine gate_dst (N := 3) rfl ?_); refine box_event ?hg (N := 3) ?hd (cs := #[.slice A1_0 l1_0.length c1_0, .int .i64 a1_1, .int .i64 a1_2, .int .i64 a1_3]) (t := 39) ?hr ?_; (case hd => rfl); (case hg => rfl); (case hr => first | (go_simp; done) | (go_simp; rfl)); intro gb281 hg w9 hbox hb; have BK281 := Aside0.mk (hbox); have GW281 := gE_ HB hg; have GE281 := gE_ HB hg; replace HB := bS_ HB hb; have NB280_281 := nL_ BK280 hg; have NB281_280 := nG_ BK280 hg; replace BK280 := bB_ BK280 hb; clear hb hbox hg; have hnb10 := NB280_281.out; have hnc10 := NB281_280.out; obtain ⟨hcz11_0, hcz11_1, hcz11_2, hcz11_3, hfz11_0, hfz11_1, hfz11_2, hfz11_3⟩ := cf4_ BK280; obtain ⟨hcz12_0, hcz12_1, hcz12_2, hcz12_3, hfz12_0, hfz12_1, hfz12_2, hfz12_3⟩ := cf4_ BK281) | ((with_reducible refine gate_callee (f := 37) rfl ?_); refine gL_ (some 9) Try.func37 #[.slice A0_0 l0_0.length c0_0, .slice A1_0 l1_0.length c1_0] ?_; (with_reducible refine (laws_eqInt64S.calls k _ _ l0_0 _ _ l1_0 true _ ?side1 ?side2 ?side3 ?side4 A3.out).mono ?_); (case side1 => exact cB_ HR0_0 HB); (case side2 => exact HC0_0.out); (case side3 => exact cB_ HR1_0 HB); (case side4 => exact HC1_0.out); rintro e w' ⟨rfl, ⟨nd, rfl⟩⟩; refine ⟨_, rfl, ?_⟩))
     go_ret
     exact ⟨by first | rfl | (simp [errW_none, errW_some] <;> rfl) | (simp [*, errW_none, errW_some] <;> rfl), sABelo_11⟩
    ·rw [if_neg c7] at H
     have c7b0 : (a0_3 == a1_3) = false := beq_eq_false_iff_ne.mpr c7
     have c7b1 : (a0_3 != a1_3) = true := bne_iff_ne.mpr c7
     obtain rfl := Option.some.inj H
     go_enter Try.func88, Try.ntmps88
     go_wp2_with (first | ((with_reducible refine gate_dst (N := 2) rfl ?_); refine box_event ?hg (N := 2) ?hd (cs := #[.slice A0_0 l0_0.length c0_0, .int .i64 a0_1, .int .i64 a0_2, .int .i64 a0_3]) (t := 39) ?hr ?_; (case hd => rfl); (case hg => rfl); (case hr => first | (go_simp; done) | (go_simp; rfl)); intro gb280 hg w13 hbox hb; have BK280 := Aside0.mk (hbox); have GW280 := gE_ HB hg; have GE280 := gE_ HB hg; replace HB := bS_ HB hb; clear hb hbox hg) | ((with_reducible refine gate_dst (N := 3) rfl ?_); refine box_event ?hg (N := 3) ?hd (cs := #[.slice A1_0 l1_0.length c1_0, .int .i64 a1_1, .int .i64 a1_2, .int .i64 a1_3]) (t := 39) ?hr ?_; (case hd => rfl); (case hg => rfl); (case hr => first | (go_simp; done) | (go_simp; rfl)); intro gb281 hg w14 hbox hb; have BK281 := Aside0.mk (hbox); have GW281 := gE_ HB hg; have GE281 := gE_ HB hg; replace HB := bS_ HB hb; have NB280_281 := nL_ BK280 hg; have NB281_280 := nG_ BK280 hg; replace BK280 := bB_ BK280 hb; clear hb hbox hg; have hnb15 := NB280_281.out; have hnc15 := NB281_280.out; obtain ⟨hcz16_0, hcz16_1, hcz16_2, hcz16_3, hfz16_0, hfz16_1, hfz16_2, hfz16_3⟩ := cf4_ BK280; obtain ⟨hcz17_0, hcz17_1, hcz17_2, hcz17_3, hfz17_0, hfz17_1, hfz17_2, hfz17_3⟩ := cf4_ BK281) | ((with_reducible refine gate_callee (f := 37) rfl ?_); refine gL_ (some 9) Try.func37 #[.slice A0_0 l0_0.length c0_0, .slice A1_0 l1_0.length c1_0] ?_; (with_reducible refine (laws_eqInt64S.calls k _ _ l0_0 _ _ l1_0 true _ ?side1 ?side2 ?side3 ?side4 A3.out).mono ?_); (case side1 => exact cB_ HR0_0 HB); (case side2 => exact HC0_0.out); (case side3 => exact cB_ HR1_0 HB); (case side4 => exact HC1_0.out); rintro e w' ⟨rfl, ⟨nd, rfl⟩⟩; refine ⟨_, rfl, ?_⟩))
     go_ret
     exact ⟨by first | rfl | (simp [errW_none, errW_some] <;> rfl) | (simp [*, errW_none, errW_some] <;> rfl), sABelo_11⟩
   ·rw [if_neg c6] at H
    have c6b0 : (a0_2 == a1_2) = false := beq_eq_false_iff_ne.mpr c6
    have c6b1 : (a0_2 != a1_2) = true := bne_iff_ne.mpr c6
    obtain rfl := Option.some.inj H
    go_enter Try.func88, Try.ntmps88
    go_wp2_with (first | ((with_reducible refine gate_dst (N := 2) rfl ?_); refine box_event ?hg (N := 2) ?hd (cs := #[.slice A0_0 l0_0.length c0_0, .int .i64 a0_1, .int .i64 a0_2, .int .i64 a0_3]) (t := 39) ?hr ?_; (case hd => rfl); (case hg => rfl); (case hr => first | (go_simp; done) | (go_simp; rfl)); intro gb280 hg w18 hbox hb; have BK280 := Aside0.mk (hbox); have GW280 := gE_ HB hg; have GE280 := gE_ HB hg; replace HB := bS_ HB hb; clear hb hbox hg) | ((with_reducible refine gate_dst (N := 3) rfl ?_); refine box_event ?hg (N := 3) ?hd (cs := #[.slice A1_0 l1_0.length c1_0, .int .i64 a1_1, .int .i64 a1_2, .int .i64 a1_3]) (t := 39) ?hr ?_; (case hd => rfl); (case hg => rfl); (case hr => first | (go_simp; done) | (go_simp; rfl)); intro gb281 hg w19 hbox hb; have BK281 := Aside0.mk (hbox); have GW281 := gE_ HB hg; have GE281 := gE_ HB hg; replace HB := bS_ HB hb; have NB280_281 := nL_ BK280 hg; have NB281_280 := nG_ BK280 hg; replace BK280 := bB_ BK280 hb; clear hb hbox hg; have hnb20 := NB280_281.out; have hnc20 := NB281_280.out; obtain ⟨hcz21_0, hcz21_1, hcz21_2, hcz21_3, hfz21_0, hfz21_1, hfz21_2, hfz21_3⟩ := cf4_ BK280; obtain ⟨hcz22_0, hcz22_1, hcz22_2, hcz22_3, hfz22_0, hfz22_1, hfz22_2, hfz22_3⟩ := cf4_ BK281) | ((with_reducible refine gate_callee (f := 37) rfl ?_); refine gL_ (some 9) Try.func37 #[.slice A0_0 l0_0.length c0_0, .slice A1_0 l1_0.length c1_0] ?_; (with_reducible refine (laws_eqInt64S.calls k _ _ l0_0 _ _ l1_0 true _ ?side1 ?side2 ?side3 ?side4 A3.out).mono ?_); (case side1 => exact cB_ HR0_0 HB); (case side2 => exact HC0_0.out); (case side3 => exact cB_ HR1_0 HB); (case side4 => exact HC1_0.out); rintro e w' ⟨rfl, ⟨nd, rfl⟩⟩; refine ⟨_, rfl, ?_⟩))
    go_ret
    exact ⟨by first | rfl | (simp [errW_none, errW_some] <;> rfl) | (simp [*, errW_none, errW_some] <;> rfl), sABelo_11⟩
  ·rw [if_neg c5] at H
   have c5b0 : (a0_1 == a1_1) = false := beq_eq_false_iff_ne.mpr c5
   have c5b1 : (a0_1 != a1_1) = true := bne_iff_ne.mpr c5
   obtain rfl := Option.some.inj H
   go_enter Try.func88, Try.ntmps88
   go_wp2_with (first | ((with_reducible refine gate_dst (N := 2) rfl ?_); refine box_event ?hg (N := 2) ?hd (cs := #[.slice A0_0 l0_0.length c0_0, .int .i64 a0_1, .int .i64 a0_2, .int .i64 a0_3]) (t := 39) ?hr ?_; (case hd => rfl); (case hg => rfl); (case hr => first | (go_simp; done) | (go_simp; rfl)); intro gb280 hg w23 hbox hb; have BK280 := Aside0.mk (hbox); have GW280 := gE_ HB hg; have GE280 := gE_ HB hg; replace HB := bS_ HB hb; clear hb hbox hg) | ((with_reducible refine gate_dst (N := 3) rfl ?_); refine box_event ?hg (N := 3) ?hd (cs := #[.slice A1_0 l1_0.length c1_0, .int .i64 a1_1, .int .i64 a1_2, .int .i64 a1_3]) (t := 39) ?hr ?_; (case hd => rfl); (case hg => rfl); (case hr => first | (go_simp; done) | (go_simp; rfl)); intro gb281 hg w24 hbox hb; have BK281 := Aside0.mk (hbox); have GW281 := gE_ HB hg; have GE281 := gE_ HB hg; replace HB := bS_ HB hb; have NB280_281 := nL_ BK280 hg; have NB281_280 := nG_ BK280 hg; replace BK280 := bB_ BK280 hb; clear hb hbox hg; have hnb25 := NB280_281.out; have hnc25 := NB281_280.out; obtain ⟨hcz26_0, hcz26_1, hcz26_2, hcz26_3, hfz26_0, hfz26_1, hfz26_2, hfz26_3⟩ := cf4_ BK280; obtain ⟨hcz27_0, hcz27_1, hcz27_2, hcz27_3, hfz27_0, hfz27_1, hfz27_2, hfz27_3⟩ := cf4_ BK281) | ((with_reducible refine gate_callee (f := 37) rfl ?_); refine gL_ (some 9) Try.func37 #[.slice A0_0 l0_0.length c0_0, .slice A1_0 l1_0.length c1_0] ?_; (with_reducible refine (laws_eqInt64S.calls k _ _ l0_0 _ _ l1_0 true _ ?side1 ?side2 ?side3 ?side4 A3.out).mono ?_); (case side1 => exact cB_ HR0_0 HB); (case side2 => exact HC0_0.out); (case side3 => exact cB_ HR1_0 HB); (case side4 => exact HC1_0.out); rintro e w' ⟨rfl, ⟨nd, rfl⟩⟩; refine ⟨_, rfl, ?_⟩))
   go_ret
   exact ⟨by first | rfl | (simp [errW_none, errW_some] <;> rfl) | (simp [*, errW_none, errW_some] <;> rfl), sABelo_11⟩
 ·replace c4 := Bool.eq_false_iff.mpr c4
  subst c4
  replace H := ifF_ H
  obtain rfl := Option.some.inj H
  go_enter Try.func88, Try.ntmps88
  go_wp2_with (first | ((with_reducible refine gate_dst (N := 2) rfl ?_); refine box_event ?hg (N := 2) ?hd (cs := #[.slice A0_0 l0_0.length c0_0, .int .i64 a0_1, .int .i64 a0_2, .int .i64 a0_3]) (t := 39) ?hr ?_; (case hd => rfl); (case hg => rfl); (case hr => first | (go_simp; done) | (go_simp; rfl)); intro gb280 hg w28 hbox hb; have BK280 := Aside0.mk (hbox); have GW280 := gE_ HB hg; have GE280 := gE_ HB hg; replace HB := bS_ HB hb; clear hb hbox hg) | ((with_reducible refine gate_dst (N := 3) rfl ?_); refine box_event ?hg (N := 3) ?hd (cs := #[.slice A1_0 l1_0.length c1_0, .int .i64 a1_1, .int .i64 a1_2, .int .i64 a1_3]) (t := 39) ?hr ?_; (case hd => rfl); (case hg => rfl); (case hr => first | (go_simp; done) | (go_simp; rfl)); intro gb281 hg w29 hbox hb; have BK281 := Aside0.mk (hbox); have GW281 := gE_ HB hg; have GE281 := gE_ HB hg; replace HB := bS_ HB hb; have NB280_281 := nL_ BK280 hg; have NB281_280 := nG_ BK280 hg; replace BK280 := bB_ BK280 hb; clear hb hbox hg; have hnb30 := NB280_281.out; have hnc30 := NB281_280.out; obtain ⟨hcz31_0, hcz31_1, hcz31_2, hcz31_3, hfz31_0, hfz31_1, hfz31_2, hfz31_3⟩ := cf4_ BK280; obtain ⟨hcz32_0, hcz32_1, hcz32_2, hcz32_3, hfz32_0, hfz32_1, hfz32_2, hfz32_3⟩ := cf4_ BK281) | ((with_reducible refine gate_callee (f := 37) rfl ?_); refine gL_ (some 9) Try.func37 #[.slice A0_0 l0_0.length c0_0, .slice A1_0 l1_0.length c1_0] ?_; (with_reducible refine (laws_eqInt64S.calls k _ _ l0_0 _ _ l1_0 false _ ?side1 ?side2 ?side3 ?side4 A3.out).mono ?_); (case side1 => exact cB_ HR0_0 HB); (case side2 => exact HC0_0.out); (case side3 => exact cB_ HR1_0 HB); (case side4 => exact HC1_0.out); rintro e w' ⟨rfl, ⟨nd, rfl⟩⟩; refine ⟨_, rfl, ?_⟩))
  go_ret
  exact ⟨by first | rfl | (simp [errW_none, errW_some] <;> rfl) | (simp [*, errW_none, errW_some] <;> rfl), sABelo_11⟩

end Go.Proofs.Ytjoghfehmhapbaa.QFnExactTickRun
