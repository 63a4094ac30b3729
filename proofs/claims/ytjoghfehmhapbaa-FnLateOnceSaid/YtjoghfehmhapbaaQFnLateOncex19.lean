-- Written by a program of this session out of the printer's texts and contracts of its own.
import Derived.Test.YtjoghfehmhapbaaSq
import Derived.Test.YtjoghfehmhapbaaQFnLateOncex0
import Derived.Test.YtjoghfehmhapbaaQFnLateOncex17
import Derived.Test.YtjoghfehmhapbaaQFnLateOncex18
namespace Go.Proofs.Ytjoghfehmhapbaa.QFnLateOnce
open Go.RowKit Go.Proofs.YtjoghfehmhapbaaW.PrintWords Go.Proofs.YtjoghfehmhapbaaW.PrintLast Go.Proofs.YtjoghfehmhapbaaW.PrintMore Go.Proofs.Ytjoghfehmhapbaa.Sq
attribute [local go_sem] max2_int min2_int max_two min_two max_three min_three max_four min_four   -- for this text's walks alone
set_option linter.unusedVariables false
set_option linter.unusedSimpArgs false
theorem sABelo_19 {b : Nat} {w W : World} (h : Below b w W := by repeat (first | (with_reducible first | exact Aside0.out (by assumption) | apply below_alloc | apply pw_below_drewN | apply below_drew1 | refine below_set ?_ (Aside0.out (by assumption))) | exact Aside0.out (by assumption))) : Below b w W := h

/-! ### impl_TickRun: function 25 -/
mutual
def impl_TickRun.j0 : Nat → Int → Bool → List (S39) → List Int → Int → List (S43) → Option ((List (S39)) × List Int × Int × (List (S43)) × List Int)
 | 0, _, _, _, _, _, _ => none
 | k + 1, x1, x16, x533000, x533001, x533002, x533003 => if x16 = true then (some (([] : List (S39)), ([] : List Int), 0, ([] : List (S43)), ([] : List Int))) else ((impl_copyRun.f k x533000 x533001 x533002 x533003).bind fun bt535 => (impl_TickRun.l0 k (([] : List Int)) x533000 (x533000.length : Int) 0 x533000 x533001 x533002 x533003 bt535.1 bt535.2.1 (wrap64 (bt535.2.2.1 + (mn x1 (wrap64 (1000000000000 - bt535.2.2.1))))) bt535.2.2.2))
def impl_TickRun.l0 : Nat → List Int → List (S39) → Int → Int → List (S39) → List Int → Int → List (S43) → List (S39) → List Int → Int → List (S43) → Option ((List (S39)) × List Int × Int × (List (S43)) × List Int)
 | 0, _, _, _, _, _, _, _, _, _, _, _, _ => none
 | k + 1, x7, x32, x33, x34, x533000, x533001, x533002, x533003, x546000, x546001, x546002, x546003 => if x34 < x33 then (if 0 ≤ x34 then (if x34 < (x32.length : Int) then (if ((rd_T39 x32 x34).f2) > 0 then (if x34 < (x533003.length : Int) then (if ((rd_T43 x533003 x34).f0) = 2 then (impl_TickRun.l0 k x7 x32 x33 (wrap64 (x34 + 1)) x533000 x533001 x533002 x533003 x546000 x546001 x546002 x546003) else (if ((rd_T39 x32 x34).f2) ≥ x533002 then (if ((rd_T39 x32 x34).f2) < x546002 then (if x7.length < 17592186044416 then (impl_TickRun.l0 k (x7 ++ [wrap64 (x34 + 1)]) x32 x33 (wrap64 (x34 + 1)) x533000 x533001 x533002 x533003 x546000 x546001 x546002 x546003) else (none)) else (impl_TickRun.l0 k x7 x32 x33 (wrap64 (x34 + 1)) x533000 x533001 x533002 x533003 x546000 x546001 x546002 x546003)) else (impl_TickRun.l0 k x7 x32 x33 (wrap64 (x34 + 1)) x533000 x533001 x533002 x533003 x546000 x546001 x546002 x546003))) else (none)) else (impl_TickRun.l0 k x7 x32 x33 (wrap64 (x34 + 1)) x533000 x533001 x533002 x533003 x546000 x546001 x546002 x546003)) else (none)) else (none)) else (some (x546000, x546001, x546002, x546003, x7))
end
def impl_TickRun.f (k : Nat) (l0_0 : List (S39)) (l0_1 : List Int) (a0_2 : Int) (l0_3 : List (S43)) (a1 : Int) : Option ((List (S39)) × List Int × Int × (List (S43)) × List Int) := (impl_runOk.f k l0_0 l0_1 a0_2 l0_3).bind fun t534 => (if t534 = true then (impl_TickRun.j0 k a1 (decide (a1 < 0)) l0_0 l0_1 a0_2 l0_3) else (impl_TickRun.j0 k a1 true l0_0 l0_1 a0_2 l0_3))
theorem impl_TickRun.mono_l : ∀ k, (∀ y0 y1 y2 y3 y4 y5, LeO (impl_TickRun.j0 k y0 y1 y2 y3 y4 y5) (impl_TickRun.j0 (k + 1) y0 y1 y2 y3 y4 y5)) ∧ (∀ y0 y1 y2 y3 y4 y5 y6 y7 y8 y9 y10 y11, LeO (impl_TickRun.l0 k y0 y1 y2 y3 y4 y5 y6 y7 y8 y9 y10 y11) (impl_TickRun.l0 (k + 1) y0 y1 y2 y3 y4 y5 y6 y7 y8 y9 y10 y11))
 | 0 => ⟨fun _ _ _ _ _ _ r h => by simp [impl_TickRun.j0] at h, fun _ _ _ _ _ _ _ _ _ _ _ _ r h => by simp [impl_TickRun.l0] at h⟩
 | k + 1 => by
  obtain ⟨ih0, ih1⟩ := impl_TickRun.mono_l k
  refine ⟨?_, ?_⟩
  intro y0 y1 y2 y3 y4 y5; unfold impl_TickRun.j0; rotate_left
  intro y0 y1 y2 y3 y4 y5 y6 y7 y8 y9 y10 y11; unfold impl_TickRun.l0; rotate_left
  all_goals repeat' first
  | (with_reducible exact ih0 _ _ _ _ _ _)
  | (with_reducible exact ih1 _ _ _ _ _ _ _ _ _ _ _ _)
  | (with_reducible exact impl_copyRun.mono _ _ _ _ _)
  | (with_reducible exact impl_runOk.mono _ _ _ _ _)
  | (with_reducible exact LeO.refl _)
  | (with_reducible exact LeO.none _)
  | (with_reducible refine LeO.ite ?_ ?_)
  | (with_reducible refine LeO.bind ?_ (fun _ => ?_))
  | exact ih0 _ _ _ _ _ _
  | exact ih1 _ _ _ _ _ _ _ _ _ _ _ _
  | exact impl_copyRun.mono _ _ _ _ _
  | exact impl_runOk.mono _ _ _ _ _
  | exact LeO.none _
  | refine LeO.ite ?_ ?_
  | refine LeO.bind ?_ (fun _ => ?_)
theorem impl_TickRun.mono : ∀ a0 a1 a2 a3 a4 k, LeO (impl_TickRun.f k a0 a1 a2 a3 a4) (impl_TickRun.f (k + 1) a0 a1 a2 a3 a4) := by
 intro a0 a1 a2 a3 a4 k
 obtain ⟨ih0, ih1⟩ := impl_TickRun.mono_l k
 unfold impl_TickRun.f
 repeat' first
   | (with_reducible exact ih0 _ _ _ _ _ _)
   | (with_reducible exact ih1 _ _ _ _ _ _ _ _ _ _ _ _)
   | (with_reducible exact impl_copyRun.mono _ _ _ _ _)
   | (with_reducible exact impl_runOk.mono _ _ _ _ _)
   | (with_reducible exact LeO.refl _)
   | (with_reducible exact LeO.none _)
   | (with_reducible refine LeO.ite ?_ ?_)
   | (with_reducible refine LeO.bind ?_ (fun _ => ?_))
   | exact ih0 _ _ _ _ _ _
   | exact ih1 _ _ _ _ _ _ _ _ _ _ _ _
   | exact LeO.none _
   | refine LeO.ite ?_ ?_
   | refine LeO.bind ?_ (fun _ => ?_)
set_option maxHeartbeats 8000000 in
set_option maxRecDepth 100000 in
theorem impl_TickRun.calls (k : Nat) (A0_0 : Option Addr) (c0_0 : Nat) (l0_0 : List (S39)) (A0_1 : Option Addr) (c0_1 : Nat) (l0_1 : List Int) (a0_2 : Int) (A0_3 : Option Addr) (c0_3 : Nat) (l0_3 : List (S43)) (a1 : Int) (r1 : List (S39)) (r2 : List Int) (r3 : Int) (r4 : List (S43)) (r5 : List Int) (w : World) (hr0_0 : Kd.C k39 w A0_0 l0_0.length l0_0) (hc0_0 : l0_0.length ≤ c0_0) (hr0_1 : Kd.C (Kd.int .i64) w A0_1 l0_1.length l0_1) (hc0_1 : l0_1.length ≤ c0_1) (hr0_3 : Kd.C k43 w A0_3 l0_3.length l0_3) (hc0_3 : l0_3.length ≤ c0_3) (h : impl_TickRun.f k l0_0 l0_1 a0_2 l0_3 a1 = some (r1, r2, r3, r4, r5)) :
  Calls Try.prog 25 #[.agg #[.slice A0_0 l0_0.length c0_0, .slice A0_1 l0_1.length c0_1, .int .i64 a0_2, .slice A0_3 l0_3.length c0_3], .int .i64 a1] w fun e w' => ∃ v0_ v1_ v3_ v4_ : Value, e = .returned (.tuple #[.agg #[v0_, v1_, .int .i64 r3, v3_], v4_]) ∧ Kd.S k39 39 w' w.heap.size (fun k_ => some k_ ≠ (v1_ : Value).ownBlock ∧ some k_ ≠ (v4_ : Value).ownBlock) v0_ r1 ∧ Kd.R (Kd.int .i64) 2 w' w.heap.size (fun k_ => some k_ ≠ (v4_ : Value).ownBlock) v1_ r2 ∧ Kd.R k43 43 w' w.heap.size (fun _ => True) v3_ r4 ∧ Kd.R (Kd.int .i64) 2 w' w.heap.size (fun k_ => some k_ ≠ (v1_ : Value).ownBlock) v4_ r5 ∧ Below w.heap.size w w' := by
 have hu31 := Try.underlying31; have hu39 := Try.underlying39; have HR0_0 := mk_ hr0_0; have HC0_0 := mk_ hc0_0; clear hr0_0 hc0_0; have HR0_1 := mk_ hr0_1; have HC0_1 := mk_ hc0_1; clear hr0_1 hc0_1; have HR0_3 := mk_ hr0_3; have HC0_3 := mk_ hc0_3; clear hr0_3 hc0_3
 have HB := mk_ (Below.refl w.heap.size w)
 have H : ((impl_runOk.f k l0_0 l0_1 a0_2 l0_3).bind fun t534 => (if t534 = true then (impl_TickRun.j0 k a1 (decide (a1 < 0)) l0_0 l0_1 a0_2 l0_3) else (impl_TickRun.j0 k a1 true l0_0 l0_1 a0_2 l0_3))) = some (r1, r2, r3, r4, r5) := h
 clear h; have HC3 := mk_ H; clear H
 go_enter Try.func25, Try.ntmps25
 go_upto_region 1 with (first | ((with_reducible refine gate_dst (N := 2) rfl ?_); refine box_event ?hg (N := 2) ?hd (cs := #[.slice A0_0 l0_0.length c0_0, .slice A0_1 l0_1.length c0_1, .int .i64 a0_2, .slice A0_3 l0_3.length c0_3]) (t := 31) ?hr ?_; (case hd => rfl); (case hg => rfl); (case hr => first | (go_simp; done) | (go_simp; rfl)); intro gb532 hg w4 hbox hb; have BK532 := mk_ (hbox); have GW532 := gE_ HB hg; have GE532 := gE_ HB hg; replace HB := bS_ HB hb; clear hb hbox hg) | ((with_reducible refine gate_dst (N := 4) rfl ?_); refine box_event ?hg (N := 4) ?hd (cs := #[.slice none 0 0, .slice none 0 0, .int .i64 0, .slice none 0 0]) (t := 31) ?hr ?_; (case hd => rfl); (case hg => rfl); (case hr => first | (go_simp; done) | (go_simp; rfl)); intro gb533 hg w5 hbox hb; have BK533 := mk_ (hbox); have GW533 := gE_ HB hg; have GE533 := gE_ HB hg; replace HB := bS_ HB hb; have NB532_533 := nL_ BK532 hg; have NB533_532 := nG_ BK532 hg; replace BK532 := bB_ BK532 hb; clear hb hbox hg))
 (try simp only [Act.put, List.setIfInBounds_toArray, List.set_cons_zero, List.set_cons_succ])
 go_cut [16] (fun v16 wc => ∃ (kq : Nat) (x16_2 : Bool), v16 = .bool x16_2 ∧ Aside0 (impl_TickRun.j0 kq a1 x16_2 l0_0 l0_1 a0_2 l0_3 = some (r1, r2, r3, r4, r5)) ∧ Aside0 (kq ≤ k) ∧ Aside0 (wc.heap[gb532]? = some (.cells #[(.slice A0_0 l0_0.length c0_0), (.slice A0_1 l0_1.length c0_1), .int .i64 a0_2, (.slice A0_3 l0_3.length c0_3)] 31 (0, 0))) ∧ Aside0 (wc.heap[gb533]? = some (.cells #[(.slice none 0 0), (.slice none 0 0), .int .i64 0, (.slice none 0 0)] 31 (0, 0))) ∧ Aside0 (Below w.heap.size w wc))
 case first =>
  have H := HC3.out; clear HC3; replace H := Option.bind_eq_some_iff.mp H
  obtain ⟨t534, A60, H⟩ := H
  (try dsimp only at H)
  have A6 := mk_ A60; clear A60
  by_cases c7 : t534 = true
  ·subst c7
   replace H := ifT_ H; have H' := mk_ H; clear H; have hnb8 := NB532_533.out; have hnc8 := NB533_532.out
   obtain ⟨hcz9_0, hcz9_1, hcz9_2, hcz9_3, hfz9_0, hfz9_1, hfz9_2, hfz9_3⟩ := cf4_ BK532
   go_wp2_with (first | ((with_reducible refine gate_callee (f := 48) rfl ?_); refine gL_ (some 11) Try.func48 #[.agg #[.slice A0_0 l0_0.length c0_0, .slice A0_1 l0_1.length c0_1, .int .i64 a0_2, .slice A0_3 l0_3.length c0_3]] ?_; (with_reducible refine (impl_runOk.calls k _ _ l0_0 _ _ l0_1 a0_2 _ _ l0_3 true _ ?side1 ?side2 ?side3 ?side4 ?side5 ?side6 A6.out).mono ?_); (case side1 => exact cB_ HR0_0 HB); (case side2 => exact HC0_0.out); (case side3 => exact cB_ HR0_1 HB); (case side4 => exact HC0_1.out); (case side5 => exact cB_ HR0_3 HB); (case side6 => exact HC0_3.out); rintro e w10 ⟨rfl, hb⟩; refine ⟨_, rfl, ?_⟩; replace BK532 := bB_ BK532 hb; replace BK533 := bB_ BK533 hb; replace HB := bS_ HB hb; (try clear hb)))
   go_meet
   case rel => exact ⟨_, (decide (a1 < 0)), eS_, H', ⟨by first | omega | exact Nat.le_refl _⟩, ⟨bT_ BK532⟩, ⟨bT_ BK533⟩, ⟨sABelo_19⟩⟩
  ·replace c7 := Bool.eq_false_iff.mpr c7
   subst c7
   replace H := ifF_ H; have H' := mk_ H; clear H; have hnb11 := NB532_533.out; have hnc11 := NB533_532.out
   obtain ⟨hcz12_0, hcz12_1, hcz12_2, hcz12_3, hfz12_0, hfz12_1, hfz12_2, hfz12_3⟩ := cf4_ BK532
   go_wp2_with (first | ((with_reducible refine gate_callee (f := 48) rfl ?_); refine gL_ (some 11) Try.func48 #[.agg #[.slice A0_0 l0_0.length c0_0, .slice A0_1 l0_1.length c0_1, .int .i64 a0_2, .slice A0_3 l0_3.length c0_3]] ?_; (with_reducible refine (impl_runOk.calls k _ _ l0_0 _ _ l0_1 a0_2 _ _ l0_3 false _ ?side1 ?side2 ?side3 ?side4 ?side5 ?side6 A6.out).mono ?_); (case side1 => exact cB_ HR0_0 HB); (case side2 => exact HC0_0.out); (case side3 => exact cB_ HR0_1 HB); (case side4 => exact HC0_1.out); (case side5 => exact cB_ HR0_3 HB); (case side6 => exact HC0_3.out); rintro e w13 ⟨rfl, hb⟩; refine ⟨_, rfl, ?_⟩; replace BK532 := bB_ BK532 hb; replace BK533 := bB_ BK533 hb; replace HB := bS_ HB hb; (try clear hb)))
   go_meet
   case rel => exact ⟨_, (true), eS_, H', ⟨by first | omega | exact Nat.le_refl _⟩, ⟨bT_ BK532⟩, ⟨bT_ BK533⟩, ⟨sABelo_19⟩⟩
 case rest =>
  clear HC3
  obtain ⟨kq, x16_2, rfl, HA, HJ2, BK532, BK533, HB⟩ := hcut
  cases kq with
  | zero => exact absurd HA.out (by simp [impl_TickRun.j0])
  | succ kj2 =>
   have H := HA.out; clear HA
   simp only [impl_TickRun.j0] at H
   by_cases c14 : x16_2 = true
   ·subst c14
    replace H := ifT_ H
    simp only [Option.some.injEq, Prod.mk.injEq] at H
    obtain ⟨rfl, rfl, rfl, rfl, rfl⟩ := H
    have hnb15 := NB533_532.out; have hnc15 := NB532_533.out
    obtain ⟨hcz16_0, hcz16_1, hcz16_2, hcz16_3, hfz16_0, hfz16_1, hfz16_2, hfz16_3⟩ := cf4_ BK533
    go_wp2
    refine bodyPost_ret (results_ct rfl _ _ gb533 31 #[.slice none 0 0, .slice none 0 0, .int .i64 0, .slice none 0 0] (0, 0) _ rfl (bP_ BK533) Try.underlying31 rfl (by kernel_rfl)) rfl ?_
    exact ⟨_, _, _, _, eW_, by first | exact Kd.S_nil _ _ _ _ _ | exact Kd.N_nil _ _ _ _ _ | exact Kd.V_nil _ _ _ _ _ | exact Kd.Q_nil _ _ _ _ _ | exact Kd.R_nil _ _ _ _ _, by first | exact Kd.R_nil _ _ _ _ _ | exact Kd.N_nil _ _ _ _ _ | exact Kd.V_nil _ _ _ _ _ | exact Kd.Q_nil _ _ _ _ _ | exact Kd.S_nil _ _ _ _ _, by first | exact Kd.R_nil _ _ _ _ _ | exact Kd.N_nil _ _ _ _ _ | exact Kd.V_nil _ _ _ _ _ | exact Kd.Q_nil _ _ _ _ _ | exact Kd.S_nil _ _ _ _ _, by first | exact Kd.R_nil _ _ _ _ _ | exact Kd.N_nil _ _ _ _ _ | exact Kd.V_nil _ _ _ _ _ | exact Kd.Q_nil _ _ _ _ _ | exact Kd.S_nil _ _ _ _ _, sABelo_19⟩
   ·replace c14 := Bool.eq_false_iff.mpr c14
    subst c14
    replace H := ifF_ H; replace H := Option.bind_eq_some_iff.mp H
    obtain ⟨⟨t535, t538, t541, t542⟩, A170, H⟩ := H
    (try dsimp only at H)
    have A17 := mk_ A170; clear A170
    obtain ⟨ji18, hji18⟩ : ∃ j_ : Int, (mn a1 (wrap64 (1000000000000 - t541))) = j_ := ⟨_, rfl⟩
    replace H : (impl_TickRun.l0 kj2 (([] : List Int)) l0_0 (l0_0.length : Int) 0 l0_0 l0_1 a0_2 l0_3 t535 t538 (wrap64 (t541 + (ji18))) t542) = some (r1, r2, r3, r4, r5) := by first | (rw [hji18] at H; exact H) | (simp only [hji18] at H ⊢; exact H)
    (try rw [hji18] at A17)
    have hji18_ : (if (wrap64 (1000000000000 - t541)) < a1 then (wrap64 (1000000000000 - t541)) else a1) = ji18 := hji18
    obtain ⟨y546, hy546⟩ : ∃ y_ : List Int, y_ = (([] : List Int)) := ⟨_, rfl⟩
    replace H : (impl_TickRun.l0 kj2 y546 l0_0 (l0_0.length : Int) 0 l0_0 l0_1 a0_2 l0_3 t535 t538 (wrap64 (t541 + (ji18))) t542) = some (r1, r2, r3, r4, r5) := by first | (rw [hy546]; with_reducible exact H) | (have H2_ := (Option.bind_some _ _).symm.trans H; rw [hy546]; with_reducible exact H2_) | (have H2_ := (Option.bind_some _ _).symm.trans H; with_reducible exact H2_) | with_reducible exact H | (rw [hy546]; exact H) | exact H
    have Ny546 := mk_ hy546; clear hy546; have H' := mk_ H; clear H; have hnb19 := NB532_533.out; have hnc19 := NB533_532.out
    obtain ⟨hcz20_0, hcz20_1, hcz20_2, hcz20_3, hfz20_0, hfz20_1, hfz20_2, hfz20_3⟩ := cf4_ BK532
    go_wp2_with (first | ((with_reducible refine gate_callee (f := 49) rfl ?_); refine gL_ (some 19) Try.func49 #[.agg #[.slice A0_0 l0_0.length c0_0, .slice A0_1 l0_1.length c0_1, .int .i64 a0_2, .slice A0_3 l0_3.length c0_3]] ?_; (with_reducible refine (impl_copyRun.calls kj2 _ _ l0_0 _ _ l0_1 a0_2 _ _ l0_3 t535 t538 t541 t542 _ ?side1 ?side2 ?side3 ?side4 ?side5 ?side6 A17.out).mono ?_); (case side1 => exact cB_ HR0_0 HB); (case side2 => exact HC0_0.out); (case side3 => exact cB_ HR0_1 HB); (case side4 => exact HC0_1.out); (case side5 => exact cB_ HR0_3 HB); (case side6 => exact HC0_3.out); rintro e w21 ⟨v536, v539, v543, rfl, ho0, ho1, ho2, hb⟩; refine ⟨_, rfl, ?_⟩; have HO537 := sL_ ho0 HB; have HO540 := rL_ ho1 HB; have HO544 := rL_ ho2 HB; replace BK532 := bB_ BK532 hb; replace BK533 := bB_ BK533 hb; replace HB := bS_ HB hb; (try clear hb); (try clear ho0); (try clear ho1); (try clear ho2)) | ((with_reducible refine gate_dst (N := 6) rfl ?_); refine box_event ?hg (N := 6) ?hd (cs := #[.slice none 0 0, .slice none 0 0, .int .i64 0, .slice none 0 0]) (t := 31) ?hr ?_; (case hd => rfl); (case hg => rfl); (case hr => first | (go_simp; done) | (go_simp; rfl)); intro gb545 hg w22 hbox hb; replace HO537 := sB_ HO537 hb; replace HO540 := rB_ HO540 hb; replace HO544 := rB_ HO544 hb; have BK545 := mk_ (hbox); have GW545 := gE_ HB hg; have GE545 := gE_ HB hg; replace HB := bS_ HB hb; have NB532_545 := nL_ BK532 hg; have NB545_532 := nG_ BK532 hg; replace BK532 := bB_ BK532 hb; have NB533_545 := nL_ BK533 hg; have NB545_533 := nG_ BK533 hg; replace BK533 := bB_ BK533 hb; clear hb hbox hg; obtain ⟨Ao23, co23, eo23⟩ := Kd.S_slice HO537.out; subst eo23; have hnb24 := NB545_532.out; have hnc24 := NB532_545.out; have hnb25 := NB545_533.out; have hnc25 := NB533_545.out; obtain ⟨hcz26_0, hcz26_1, hcz26_2, hcz26_3, hfz26_0, hfz26_1, hfz26_2, hfz26_3⟩ := cf4_ BK545; obtain ⟨Ao27, co27, eo27⟩ := Kd.R_slice HO540.out; subst eo27; obtain ⟨Ao28, co28, eo28⟩ := Kd.R_slice HO544.out; subst eo28) | ((with_reducible refine gate_dst (N := 29) rfl ?_); refine Kd.R_lit (Kd.int .i64) _ 2 ?hg (N := 29) ?hd (xs := ([] : List Int)) (inner := []) (ok := fun _ => True) (okp := fun _ => True) ?hr ?hp (fun _ hk => hk) trivial (Below.refl _ _) (Nat.le_refl _) (by simp) ?_; (case hd => rfl); (case hg => rfl); (case hr => first | (go_simp; done) | (go_simp; rfl)); (case hp => exact (Reps.none _ _)); intro v547 w29 ho30 hb hg_ hnew_; clear hg_ hnew_; (first | rw [← Ny546.out] at ho30 | (simp only [Int.reduceToNat] at ho30; rw [← Ny546.out] at ho30)); replace HO537 := mk_ (Kd.S_elder' (sF_ HO537 BK545) (Kd.R_base ho30) hb); replace HO544 := rBF_ HO544 BK545 hb; have HO548 := rLF_ (rN_ ho30 HO540) HB; replace HO540 := rEF_ HO540 BK545 ho30 hb; replace BK532 := bBF_ BK532 NB532_545 hb; replace BK533 := bBF_ BK533 NB533_545 hb; replace BK545 := mk_ (blk_below (g := gb545) (o := .cells #[.slice Ao23 t535.length co23, .slice Ao27 t538.length co27, .int .i64 (wrap64 (t541 + (ji18))), .slice Ao28 t542.length co28] 31 (0, 0)) (bP_ BK545) hb); replace HB := bSF_ HB GE545 hb; clear hb ho30; obtain ⟨hcz31_0, hcz31_1, hcz31_2, hcz31_3, hfz31_0, hfz31_1, hfz31_2, hfz31_3⟩ := cf4_ BK532))
    go_loopg [7, 34] kj2 (fun kq v7 v34 w' => ∃ (x7_2 : List Int) (x34_2 : Int), v34 = .int .i64 x34_2 ∧ Aside0 (impl_TickRun.l0 kq x7_2 l0_0 (l0_0.length : Int) x34_2 l0_0 l0_1 a0_2 l0_3 t535 t538 (wrap64 (t541 + (ji18))) t542 = some (r1, r2, r3, r4, r5)) ∧ Aside0 (kq ≤ kj2) ∧ Aside0 (Kd.R (Kd.int .i64) 2 w' w.heap.size (fun k_ => some k_ ≠ ((.slice Ao27 t538.length co27) : Value).ownBlock) v7 x7_2) ∧ Aside0 (Kd.S k39 39 w' w.heap.size (fun k_ => some k_ ≠ (v7 : Value).ownBlock ∧ some k_ ≠ ((.slice Ao27 t538.length co27) : Value).ownBlock) (.slice Ao23 t535.length co23) t535) ∧ Aside0 (Kd.R (Kd.int .i64) 2 w' w.heap.size (fun k_ => some k_ ≠ (v7 : Value).ownBlock) (.slice Ao27 t538.length co27) t538) ∧ Aside0 (Kd.R k43 43 w' w.heap.size (fun _ => True) (.slice Ao28 t542.length co28) t542) ∧ Aside0 (w'.heap[gb532]? = some (.cells #[(.slice A0_0 l0_0.length c0_0), (.slice A0_1 l0_1.length c0_1), .int .i64 a0_2, (.slice A0_3 l0_3.length c0_3)] 31 (0, 0))) ∧ Aside0 (w'.heap[gb533]? = some (.cells #[(.slice none 0 0), (.slice none 0 0), .int .i64 0, (.slice none 0 0)] 31 (0, 0))) ∧ Aside0 (w'.heap[gb545]? = some (.cells #[(.slice Ao23 t535.length co23), (.slice Ao27 t538.length co27), .int .i64 (wrap64 (t541 + (ji18))), (.slice Ao28 t542.length co28)] 31 (0, 0))) ∧ Aside0 (Below w.heap.size w w'))
    case atStart => exact ⟨(y546), (0), eS_, H', ⟨Nat.le_refl _⟩, ⟨rM2_ HO548⟩, ⟨sM2_ HO537⟩, ⟨rM2_ HO540⟩, ⟨rT_ HO544⟩, ⟨bT_ BK532⟩, ⟨bT_ BK533⟩, ⟨bT_ BK545⟩, ⟨sABelo_19⟩⟩
    case round =>
     clear H'; (try clear c14); (try clear hcz20_0); (try clear hcz20_1); (try clear hcz20_2); (try clear hcz20_3); (try clear hcz26_0); (try clear hcz26_1); (try clear hcz26_2); (try clear hcz26_3); (try clear hcz31_0); (try clear hcz31_1); (try clear hcz31_2); (try clear hcz31_3); (try clear hfz20_0); (try clear hfz20_1); (try clear hfz20_2); (try clear hfz20_3); (try clear hfz26_0); (try clear hfz26_1); (try clear hfz26_2); (try clear hfz26_3); (try clear hfz31_0); (try clear hfz31_1); (try clear hfz31_2); (try clear hfz31_3)
     obtain ⟨x7_2, x34_2, rfl, HA, HK2, HO_7, HO_546000, HO_546001, HO_546003, BK532, BK533, BK545, HB⟩ := hrel
     cases gk with
     | zero => exact absurd HA.out (by simp [impl_TickRun.l0])
     | succ k2 =>
      have H := HA.out; clear HA
      simp only [impl_TickRun.l0] at H
      by_cases c32 : x34_2 < (l0_0.length : Int)
      ·rw [if_pos c32] at H
       have c32b0 := decide_eq_true c32
       clear c32
       obtain ⟨c33, H⟩ := ifS_ H
       have c33b0 : decide (0 ≤ x34_2) = true := decide_eq_true c33
       clear c33
       obtain ⟨c34, H⟩ := ifS_ H
       have c34b0 : decide (x34_2 < (l0_0.length : Int)) = true := decide_eq_true c34
       clear c34
       by_cases c35 : ((rd_T39 l0_0 x34_2).f2) > 0
       ·rw [if_pos c35] at H
        have c35b0 : decide (0 < ((rd_T39 l0_0 x34_2).f2)) = true := decide_eq_true c35
        clear c35
        obtain ⟨c36, H⟩ := ifS_ H
        have c36b0 : decide (x34_2 < (l0_3.length : Int)) = true := decide_eq_true c36
        clear c36
        by_cases c37 : ((rd_T43 l0_3 x34_2).f0) = 2
        ·rw [if_pos c37] at H
         have c37b0 := beq_iff_eq.mpr c37
         have c37b1 := bne_eq_false_iff_eq.mpr c37
         clear c37; have H' := mk_ H; clear H
         have p549 : 0 ≤ (x34_2 : Int) := dA_
         have q549 : x34_2 < (l0_0.length : Int) := dA_
         obtain ⟨ad549, A549_0, c549_0, e549, hx549_0, hx549_1, hx549_2, hx549_3, hl549_0, hi549_0⟩ := at_T39 HR0_0.out x34_2 p549 q549
         cases e549
         replace hx549_0 := hX_ HB hx549_0
         replace hx549_1 := hX_ HB hx549_1
         replace hx549_2 := hX_ HB hx549_2
         replace hx549_3 := hX_ HB hx549_3
         have HR549_0 := mk_ hi549_0; have HC549_0 := mk_ hl549_0; clear hi549_0 hl549_0; replace p549 := eq_true p549; replace q549 := eq_true q549
         go_wp2_with (first | ((with_reducible refine gate_dst (N := 9) rfl ?_); refine box_event ?hg (N := 9) ?hd (cs := #[.slice none 0 0, .int .i64 0, .int .i64 0, .int .i64 0]) (t := 39) ?hr ?_; (case hd => rfl); (case hg => rfl); (case hr => first | (go_simp; done) | (go_simp; rfl)); intro gb550 hg w38 hbox hb; replace HO_7 := rB_ HO_7 hb; replace HO_546000 := mk_ (Kd.S_below (Kd.S_elderB (sT_ HO_546000) gb550 (Nat.le_of_eq hg.symm)) hb); replace HO_546001 := rB_ HO_546001 hb; replace HO_546003 := rB_ HO_546003 hb; have BK550 := mk_ (hbox); have GW550 := gE_ HB hg; have GE550 := gE_ HB hg; replace HB := bS_ HB hb; have NB532_550 := nL_ BK532 hg; have NB550_532 := nG_ BK532 hg; replace BK532 := bB_ BK532 hb; have NB533_550 := nL_ BK533 hg; have NB550_533 := nG_ BK533 hg; replace BK533 := bB_ BK533 hb; have NB545_550 := nL_ BK545 hg; have NB550_545 := nG_ BK545 hg; replace BK545 := bB_ BK545 hb; clear hb hbox hg; have hnb39 := NB550_532.out; have hnc39 := NB532_550.out; have hnb40 := NB550_533.out; have hnc40 := NB533_550.out; have hnb41 := NB550_545.out; have hnc41 := NB545_550.out; obtain ⟨hcz42_0, hcz42_1, hcz42_2, hcz42_3, hfz42_0, hfz42_1, hfz42_2, hfz42_3⟩ := cf4_ BK550; have hnb43 := NB532_533.out; have hnc43 := NB533_532.out; have hnb44 := NB532_545.out; have hnc44 := NB545_532.out; obtain ⟨hcz45_0, hcz45_1, hcz45_2, hcz45_3, hfz45_0, hfz45_1, hfz45_2, hfz45_3⟩ := cf4_ BK532; have p551 : 0 ≤ (x34_2 : Int) := dA_; have q551 : x34_2 < (l0_3.length : Int) := dA_; obtain ⟨ad551, e551, hx551_0, hx551_1⟩ := at_T43 HR0_3.out x34_2 p551 q551; cases e551; have hn551_0 : ad551.block ≠ gb550 := bn_ hx551_0 GW550; have hn551_1 : ad551.block ≠ gb550 := bn_ hx551_0 GW550; have hn551_2 : ad551.block ≠ gb550 := bn_ hx551_0 GW550; have hn551_3 : ad551.block ≠ gb550 := bn_ hx551_0 GW550; replace hx551_0 := hX_ HB hx551_0; replace hx551_1 := hX_ HB hx551_1; replace hx551_0 := cFr_ hx551_0 ⟨gb550, 0, none⟩ (.slice A549_0 ((rd_T39 l0_0 x34_2).f0).length c549_0) hn551_0; replace hx551_1 := cFr_ hx551_1 ⟨gb550, 0, none⟩ (.slice A549_0 ((rd_T39 l0_0 x34_2).f0).length c549_0) hn551_0; replace hx551_0 := cFr_ hx551_0 ⟨gb550, 1, none⟩ (.int .i64 ((rd_T39 l0_0 x34_2).f1)) hn551_1; replace hx551_1 := cFr_ hx551_1 ⟨gb550, 1, none⟩ (.int .i64 ((rd_T39 l0_0 x34_2).f1)) hn551_1; replace hx551_0 := cFr_ hx551_0 ⟨gb550, 2, none⟩ (.int .i64 ((rd_T39 l0_0 x34_2).f2)) hn551_2; replace hx551_1 := cFr_ hx551_1 ⟨gb550, 2, none⟩ (.int .i64 ((rd_T39 l0_0 x34_2).f2)) hn551_2; replace hx551_0 := cFr_ hx551_0 ⟨gb550, 3, none⟩ (.int .i64 ((rd_T39 l0_0 x34_2).f3)) hn551_3; replace hx551_1 := cFr_ hx551_1 ⟨gb550, 3, none⟩ (.int .i64 ((rd_T39 l0_0 x34_2).f3)) hn551_3; clear hn551_0; clear hn551_1; clear hn551_2; clear hn551_3; replace p551 := eq_true p551; replace q551 := eq_true q551))
         go_roundg k2
         case measure => have := HJ2.out; have := HK2.out; omega
         case rel => exact ⟨(x7_2), (wrap64 (x34_2 + 1)), eS_, H', ⟨by have := HJ2.out; have := HK2.out; omega⟩, ⟨rFM_ HO_7 BK550⟩, ⟨sFN_ HO_546000⟩, ⟨rFM_ HO_546001 BK550⟩, ⟨rFM_ HO_546003 BK550⟩, ⟨bF_ BK532 NB532_550⟩, ⟨bF_ BK533 NB533_550⟩, ⟨bF_ BK545 NB545_550⟩, ⟨sABelo_19⟩⟩
        ·rw [if_neg c37] at H
         have c37b0 := beq_eq_false_iff_ne.mpr c37
         have c37b1 := bne_iff_ne.mpr c37
         by_cases c46 : ((rd_T39 l0_0 x34_2).f2) ≥ a0_2
         ·rw [if_pos c46] at H
          have c46b0 : decide (a0_2 ≤ ((rd_T39 l0_0 x34_2).f2)) = true := decide_eq_true c46
          clear c46
          by_cases c47 : ((rd_T39 l0_0 x34_2).f2) < (wrap64 (t541 + (ji18)))
          ·rw [if_pos c47] at H
           have c47b0 := decide_eq_true c47
           clear c47
           obtain ⟨c48, H⟩ := ifS_ H
           have LMc48 := mk_ c48; clear c48
           obtain ⟨y552, hy552⟩ : ∃ y_ : List Int, y_ = (x7_2 ++ [wrap64 (x34_2 + 1)]) := ⟨_, rfl⟩
           replace H : (impl_TickRun.l0 k2 y552 l0_0 (l0_0.length : Int) (wrap64 (x34_2 + 1)) l0_0 l0_1 a0_2 l0_3 t535 t538 (wrap64 (t541 + (ji18))) t542) = some (r1, r2, r3, r4, r5) := by first | (rw [hy552]; with_reducible exact H) | (have H2_ := (Option.bind_some _ _).symm.trans H; rw [hy552]; with_reducible exact H2_) | (have H2_ := (Option.bind_some _ _).symm.trans H; with_reducible exact H2_) | with_reducible exact H | (rw [hy552]; exact H) | exact H
           have Ny552 := mk_ hy552; clear hy552; have H' := mk_ H; clear H
           have p549 : 0 ≤ (x34_2 : Int) := dA_
           have q549 : x34_2 < (l0_0.length : Int) := dA_
           obtain ⟨ad549, A549_0, c549_0, e549, hx549_0, hx549_1, hx549_2, hx549_3, hl549_0, hi549_0⟩ := at_T39 HR0_0.out x34_2 p549 q549
           cases e549
           replace hx549_0 := hX_ HB hx549_0
           replace hx549_1 := hX_ HB hx549_1
           replace hx549_2 := hX_ HB hx549_2
           replace hx549_3 := hX_ HB hx549_3
           have HR549_0 := mk_ hi549_0; have HC549_0 := mk_ hl549_0; clear hi549_0 hl549_0; replace p549 := eq_true p549; replace q549 := eq_true q549
           go_wp2_with (first | ((with_reducible refine gate_dst (N := 9) rfl ?_); refine box_event ?hg (N := 9) ?hd (cs := #[.slice none 0 0, .int .i64 0, .int .i64 0, .int .i64 0]) (t := 39) ?hr ?_; (case hd => rfl); (case hg => rfl); (case hr => first | (go_simp; done) | (go_simp; rfl)); intro gb550 hg w49 hbox hb; replace HO_7 := rB_ HO_7 hb; replace HO_546000 := mk_ (Kd.S_below (Kd.S_elderB (sT_ HO_546000) gb550 (Nat.le_of_eq hg.symm)) hb); replace HO_546001 := rB_ HO_546001 hb; replace HO_546003 := rB_ HO_546003 hb; have BK550 := mk_ (hbox); have GW550 := gE_ HB hg; have GE550 := gE_ HB hg; replace HB := bS_ HB hb; have NB532_550 := nL_ BK532 hg; have NB550_532 := nG_ BK532 hg; replace BK532 := bB_ BK532 hb; have NB533_550 := nL_ BK533 hg; have NB550_533 := nG_ BK533 hg; replace BK533 := bB_ BK533 hb; have NB545_550 := nL_ BK545 hg; have NB550_545 := nG_ BK545 hg; replace BK545 := bB_ BK545 hb; clear hb hbox hg; have hnb50 := NB550_532.out; have hnc50 := NB532_550.out; have hnb51 := NB550_533.out; have hnc51 := NB533_550.out; have hnb52 := NB550_545.out; have hnc52 := NB545_550.out; obtain ⟨hcz53_0, hcz53_1, hcz53_2, hcz53_3, hfz53_0, hfz53_1, hfz53_2, hfz53_3⟩ := cf4_ BK550; have hnb54 := NB532_533.out; have hnc54 := NB533_532.out; have hnb55 := NB532_545.out; have hnc55 := NB545_532.out; obtain ⟨hcz56_0, hcz56_1, hcz56_2, hcz56_3, hfz56_0, hfz56_1, hfz56_2, hfz56_3⟩ := cf4_ BK532; have p551 : 0 ≤ (x34_2 : Int) := dA_; have q551 : x34_2 < (l0_3.length : Int) := dA_; obtain ⟨ad551, e551, hx551_0, hx551_1⟩ := at_T43 HR0_3.out x34_2 p551 q551; cases e551; have hn551_0 : ad551.block ≠ gb550 := bn_ hx551_0 GW550; have hn551_1 : ad551.block ≠ gb550 := bn_ hx551_0 GW550; have hn551_2 : ad551.block ≠ gb550 := bn_ hx551_0 GW550; have hn551_3 : ad551.block ≠ gb550 := bn_ hx551_0 GW550; replace hx551_0 := hX_ HB hx551_0; replace hx551_1 := hX_ HB hx551_1; replace hx551_0 := cFr_ hx551_0 ⟨gb550, 0, none⟩ (.slice A549_0 ((rd_T39 l0_0 x34_2).f0).length c549_0) hn551_0; replace hx551_1 := cFr_ hx551_1 ⟨gb550, 0, none⟩ (.slice A549_0 ((rd_T39 l0_0 x34_2).f0).length c549_0) hn551_0; replace hx551_0 := cFr_ hx551_0 ⟨gb550, 1, none⟩ (.int .i64 ((rd_T39 l0_0 x34_2).f1)) hn551_1; replace hx551_1 := cFr_ hx551_1 ⟨gb550, 1, none⟩ (.int .i64 ((rd_T39 l0_0 x34_2).f1)) hn551_1; replace hx551_0 := cFr_ hx551_0 ⟨gb550, 2, none⟩ (.int .i64 ((rd_T39 l0_0 x34_2).f2)) hn551_2; replace hx551_1 := cFr_ hx551_1 ⟨gb550, 2, none⟩ (.int .i64 ((rd_T39 l0_0 x34_2).f2)) hn551_2; replace hx551_0 := cFr_ hx551_0 ⟨gb550, 3, none⟩ (.int .i64 ((rd_T39 l0_0 x34_2).f3)) hn551_3; replace hx551_1 := cFr_ hx551_1 ⟨gb550, 3, none⟩ (.int .i64 ((rd_T39 l0_0 x34_2).f3)) hn551_3; clear hn551_0; clear hn551_1; clear hn551_2; clear hn551_3; replace p551 := eq_true p551; replace q551 := eq_true q551; have hnb57 := NB545_533.out; have hnc57 := NB533_545.out; obtain ⟨hcz58_0, hcz58_1, hcz58_2, hcz58_3, hfz58_0, hfz58_1, hfz58_2, hfz58_3⟩ := cf4_ BK545) | ((with_reducible refine gate_builtin (b := .append) (xs := #[.tmp 65, .tmp 68]) rfl ?_); at_builtin; refine Kd.R_append (Kd.int .i64) (w0 := w) w.heap.size rfl (.tmp 65) (.tmp 68) 25 2 (.int .i64 0) 8 rfl Try.underlying25 info2 rfl (by decide) (by omega) u7 x7_2 (wrap64 (x34_2 + 1)) [.int .i64 (wrap64 (x34_2 + 1))] (fun k_ => some k_ ≠ (.slice Ao27 t538.length co27 : Value).ownBlock) (fun _ => False) rfl (by first | (go_simp; done) | (go_simp; rfl)) ?aP (fun _ hk => hk.elim) ?aF ?aO ?aB ?aS ?aL ?_; (case aP => exact rfl); (case aB => exact sABelo_19); (case aF => exact (fun k_ hk => Kd.fresh' (rLt_ HO_546001) k_ hk)); (case aO => exact (rF_ HO_7 BK550)); (case aS => exact (below_size sABelo_19)); (case aL => have := LMc48.out; omega); intro v553 w59 ho hb hg hat; rw [← Ny552.out] at ho; replace HO_546000 := mk_ (Kd.S_after (ok := (fun k_ => some k_ ≠ (.slice Ao27 t538.length co27 : Value).ownBlock ∧ k_ ≠ gb550)) (by (with_reducible repeat (first | apply Kd.S_alloc | apply Kd.S_drewN | apply Kd.S_drew)); exact Kd.S_mono (Kd.S_far (p := ⟨gb550, 3, none⟩) (Kd.S_far (p := ⟨gb550, 2, none⟩) (Kd.S_far (p := ⟨gb550, 1, none⟩) (Kd.S_far (p := ⟨gb550, 0, none⟩) (Kd.S_mono HO_546000.out (fun k_ hk => (⟨hk, hk.2⟩ : _ ∧ k_ ≠ gb550))) (fun _ hk => hk.2) (.slice A549_0 ((rd_T39 l0_0 x34_2).f0).length c549_0)) (fun _ hk => hk.2) (.int .i64 ((rd_T39 l0_0 x34_2).f1))) (fun _ hk => hk.2) (.int .i64 ((rd_T39 l0_0 x34_2).f2))) (fun _ hk => hk.2) (.int .i64 ((rd_T39 l0_0 x34_2).f3))) (fun _ hk => ⟨⟨hk.1.1.2, hk.1.2⟩, hk.1.1.1⟩)) hg hat); replace HO_546001 := mk_ (Kd.R_after (ok := (fun _ => True)) (by (with_reducible repeat (first | apply Kd.R_alloc | apply Kd.R_drewN | apply Kd.R_drew)); exact Kd.R_mono (Kd.R_far (p := ⟨gb550, 3, none⟩) (Kd.R_far (p := ⟨gb550, 2, none⟩) (Kd.R_far (p := ⟨gb550, 1, none⟩) (Kd.R_far (p := ⟨gb550, 0, none⟩) (Kd.R_types HO_546001.out BK550.out (by decide)) (fun _ hk => hk.2) (.slice A549_0 ((rd_T39 l0_0 x34_2).f0).length c549_0)) (fun _ hk => hk.2) (.int .i64 ((rd_T39 l0_0 x34_2).f1))) (fun _ hk => hk.2) (.int .i64 ((rd_T39 l0_0 x34_2).f2))) (fun _ hk => hk.2) (.int .i64 ((rd_T39 l0_0 x34_2).f3))) (fun _ hk => ⟨trivial, hk.1⟩)) hg hat); replace HO_546003 := mk_ (Kd.R_over' (rF_ HO_546003 BK550) (Kd.R_typed (rF_ HO_7 BK550)) (by decide) hg); replace BK532 := mk_ (blk_grown (bF_ BK532 NB532_550) hg (Kd.R_ne HO_7.out BK532.out (by decide))); replace BK533 := mk_ (blk_grown (bF_ BK533 NB533_550) hg (Kd.R_ne HO_7.out BK533.out (by decide))); replace BK545 := mk_ (blk_grown (bF_ BK545 NB545_550) hg (Kd.R_ne HO_7.out BK545.out (by decide))); replace BK550 := mk_ (blk_grown (bP_ BK550) hg (Kd.R_ne HO_7.out BK550.out (by decide))); replace HB := mk_ (hb); have HO554 := mk_ (ho); clear HO_7; clear ho hb hg hat))
           go_roundg k2
           case measure => have := HJ2.out; have := HK2.out; omega
           case rel => exact ⟨(y552), (wrap64 (x34_2 + 1)), eS_, H', ⟨by have := HJ2.out; have := HK2.out; omega⟩, ⟨rT_ HO554⟩, ⟨sM2_ HO_546000⟩, ⟨rM2_ HO_546001⟩, ⟨rT_ HO_546003⟩, ⟨bT_ BK532⟩, ⟨bT_ BK533⟩, ⟨bT_ BK545⟩, ⟨sABelo_19⟩⟩
          ·rw [if_neg c47] at H
           have c47b0 := decide_eq_false c47
           clear c47; have H' := mk_ H; clear H
           have p549 : 0 ≤ (x34_2 : Int) := dA_
           have q549 : x34_2 < (l0_0.length : Int) := dA_
           obtain ⟨ad549, A549_0, c549_0, e549, hx549_0, hx549_1, hx549_2, hx549_3, hl549_0, hi549_0⟩ := at_T39 HR0_0.out x34_2 p549 q549
           cases e549
           replace hx549_0 := hX_ HB hx549_0
           replace hx549_1 := hX_ HB hx549_1
           replace hx549_2 := hX_ HB hx549_2
           replace hx549_3 := hX_ HB hx549_3
           have HR549_0 := mk_ hi549_0; have HC549_0 := mk_ hl549_0; clear hi549_0 hl549_0; replace p549 := eq_true p549; replace q549 := eq_true q549
           go_wp2_with (first | ((with_reducible refine gate_dst (N := 9) rfl ?_); refine box_event ?hg (N := 9) ?hd (cs := #[.slice none 0 0, .int .i64 0, .int .i64 0, .int .i64 0]) (t := 39) ?hr ?_; (case hd => rfl); (case hg => rfl); (case hr => first | (go_simp; done) | (go_simp; rfl)); intro gb550 hg w60 hbox hb; replace HO_7 := rB_ HO_7 hb; replace HO_546000 := mk_ (Kd.S_below (Kd.S_elderB (sT_ HO_546000) gb550 (Nat.le_of_eq hg.symm)) hb); replace HO_546001 := rB_ HO_546001 hb; replace HO_546003 := rB_ HO_546003 hb; have BK550 := mk_ (hbox); have GW550 := gE_ HB hg; have GE550 := gE_ HB hg; replace HB := bS_ HB hb; have NB532_550 := nL_ BK532 hg; have NB550_532 := nG_ BK532 hg; replace BK532 := bB_ BK532 hb; have NB533_550 := nL_ BK533 hg; have NB550_533 := nG_ BK533 hg; replace BK533 := bB_ BK533 hb; have NB545_550 := nL_ BK545 hg; have NB550_545 := nG_ BK545 hg; replace BK545 := bB_ BK545 hb; clear hb hbox hg; have hnb61 := NB550_532.out; have hnc61 := NB532_550.out; have hnb62 := NB550_533.out; have hnc62 := NB533_550.out; have hnb63 := NB550_545.out; have hnc63 := NB545_550.out; obtain ⟨hcz64_0, hcz64_1, hcz64_2, hcz64_3, hfz64_0, hfz64_1, hfz64_2, hfz64_3⟩ := cf4_ BK550; have hnb65 := NB532_533.out; have hnc65 := NB533_532.out; have hnb66 := NB532_545.out; have hnc66 := NB545_532.out; obtain ⟨hcz67_0, hcz67_1, hcz67_2, hcz67_3, hfz67_0, hfz67_1, hfz67_2, hfz67_3⟩ := cf4_ BK532; have p551 : 0 ≤ (x34_2 : Int) := dA_; have q551 : x34_2 < (l0_3.length : Int) := dA_; obtain ⟨ad551, e551, hx551_0, hx551_1⟩ := at_T43 HR0_3.out x34_2 p551 q551; cases e551; have hn551_0 : ad551.block ≠ gb550 := bn_ hx551_0 GW550; have hn551_1 : ad551.block ≠ gb550 := bn_ hx551_0 GW550; have hn551_2 : ad551.block ≠ gb550 := bn_ hx551_0 GW550; have hn551_3 : ad551.block ≠ gb550 := bn_ hx551_0 GW550; replace hx551_0 := hX_ HB hx551_0; replace hx551_1 := hX_ HB hx551_1; replace hx551_0 := cFr_ hx551_0 ⟨gb550, 0, none⟩ (.slice A549_0 ((rd_T39 l0_0 x34_2).f0).length c549_0) hn551_0; replace hx551_1 := cFr_ hx551_1 ⟨gb550, 0, none⟩ (.slice A549_0 ((rd_T39 l0_0 x34_2).f0).length c549_0) hn551_0; replace hx551_0 := cFr_ hx551_0 ⟨gb550, 1, none⟩ (.int .i64 ((rd_T39 l0_0 x34_2).f1)) hn551_1; replace hx551_1 := cFr_ hx551_1 ⟨gb550, 1, none⟩ (.int .i64 ((rd_T39 l0_0 x34_2).f1)) hn551_1; replace hx551_0 := cFr_ hx551_0 ⟨gb550, 2, none⟩ (.int .i64 ((rd_T39 l0_0 x34_2).f2)) hn551_2; replace hx551_1 := cFr_ hx551_1 ⟨gb550, 2, none⟩ (.int .i64 ((rd_T39 l0_0 x34_2).f2)) hn551_2; replace hx551_0 := cFr_ hx551_0 ⟨gb550, 3, none⟩ (.int .i64 ((rd_T39 l0_0 x34_2).f3)) hn551_3; replace hx551_1 := cFr_ hx551_1 ⟨gb550, 3, none⟩ (.int .i64 ((rd_T39 l0_0 x34_2).f3)) hn551_3; clear hn551_0; clear hn551_1; clear hn551_2; clear hn551_3; replace p551 := eq_true p551; replace q551 := eq_true q551; have hnb68 := NB545_533.out; have hnc68 := NB533_545.out; obtain ⟨hcz69_0, hcz69_1, hcz69_2, hcz69_3, hfz69_0, hfz69_1, hfz69_2, hfz69_3⟩ := cf4_ BK545))
           go_roundg k2
           case measure => have := HJ2.out; have := HK2.out; omega
           case rel => exact ⟨(x7_2), (wrap64 (x34_2 + 1)), eS_, H', ⟨by have := HJ2.out; have := HK2.out; omega⟩, ⟨rFM_ HO_7 BK550⟩, ⟨sFN_ HO_546000⟩, ⟨rFM_ HO_546001 BK550⟩, ⟨rFM_ HO_546003 BK550⟩, ⟨bF_ BK532 NB532_550⟩, ⟨bF_ BK533 NB533_550⟩, ⟨bF_ BK545 NB545_550⟩, ⟨sABelo_19⟩⟩
         ·rw [if_neg c46] at H
          have c46b0 : decide (a0_2 ≤ ((rd_T39 l0_0 x34_2).f2)) = false := decide_eq_false c46
          clear c46; have H' := mk_ H; clear H
          have p549 : 0 ≤ (x34_2 : Int) := dA_
          have q549 : x34_2 < (l0_0.length : Int) := dA_
          obtain ⟨ad549, A549_0, c549_0, e549, hx549_0, hx549_1, hx549_2, hx549_3, hl549_0, hi549_0⟩ := at_T39 HR0_0.out x34_2 p549 q549
          cases e549
          replace hx549_0 := hX_ HB hx549_0
          replace hx549_1 := hX_ HB hx549_1
          replace hx549_2 := hX_ HB hx549_2
          replace hx549_3 := hX_ HB hx549_3
          have HR549_0 := mk_ hi549_0; have HC549_0 := mk_ hl549_0; clear hi549_0 hl549_0; replace p549 := eq_true p549; replace q549 := eq_true q549
          go_wp2_with (first | ((with_reducible refine gate_dst (N := 9) rfl ?_); refine box_event ?hg (N := 9) ?hd (cs := #[.slice none 0 0, .int .i64 0, .int .i64 0, .int .i64 0]) (t := 39) ?hr ?_; (case hd => rfl); (case hg => rfl); (case hr => first | (go_simp; done) | (go_simp; rfl)); intro gb550 hg w70 hbox hb; replace HO_7 := rB_ HO_7 hb; replace HO_546000 := mk_ (Kd.S_below (Kd.S_elderB (sT_ HO_546000) gb550 (Nat.le_of_eq hg.symm)) hb); replace HO_546001 := rB_ HO_546001 hb; replace HO_546003 := rB_ HO_546003 hb; have BK550 := mk_ (hbox); have GW550 := gE_ HB hg; have GE550 := gE_ HB hg; replace HB := bS_ HB hb; have NB532_550 := nL_ BK532 hg; have NB550_532 := nG_ BK532 hg; replace BK532 := bB_ BK532 hb; have NB533_550 := nL_ BK533 hg; have NB550_533 := nG_ BK533 hg; replace BK533 := bB_ BK533 hb; have NB545_550 := nL_ BK545 hg; have NB550_545 := nG_ BK545 hg; replace BK545 := bB_ BK545 hb; clear hb hbox hg; have hnb71 := NB550_532.out; have hnc71 := NB532_550.out; have hnb72 := NB550_533.out; have hnc72 := NB533_550.out; have hnb73 := NB550_545.out; have hnc73 := NB545_550.out; obtain ⟨hcz74_0, hcz74_1, hcz74_2, hcz74_3, hfz74_0, hfz74_1, hfz74_2, hfz74_3⟩ := cf4_ BK550; have hnb75 := NB532_533.out; have hnc75 := NB533_532.out; have hnb76 := NB532_545.out; have hnc76 := NB545_532.out; obtain ⟨hcz77_0, hcz77_1, hcz77_2, hcz77_3, hfz77_0, hfz77_1, hfz77_2, hfz77_3⟩ := cf4_ BK532; have p551 : 0 ≤ (x34_2 : Int) := dA_; have q551 : x34_2 < (l0_3.length : Int) := dA_; obtain ⟨ad551, e551, hx551_0, hx551_1⟩ := at_T43 HR0_3.out x34_2 p551 q551; cases e551; have hn551_0 : ad551.block ≠ gb550 := bn_ hx551_0 GW550; have hn551_1 : ad551.block ≠ gb550 := bn_ hx551_0 GW550; have hn551_2 : ad551.block ≠ gb550 := bn_ hx551_0 GW550; have hn551_3 : ad551.block ≠ gb550 := bn_ hx551_0 GW550; replace hx551_0 := hX_ HB hx551_0; replace hx551_1 := hX_ HB hx551_1; replace hx551_0 := cFr_ hx551_0 ⟨gb550, 0, none⟩ (.slice A549_0 ((rd_T39 l0_0 x34_2).f0).length c549_0) hn551_0; replace hx551_1 := cFr_ hx551_1 ⟨gb550, 0, none⟩ (.slice A549_0 ((rd_T39 l0_0 x34_2).f0).length c549_0) hn551_0; replace hx551_0 := cFr_ hx551_0 ⟨gb550, 1, none⟩ (.int .i64 ((rd_T39 l0_0 x34_2).f1)) hn551_1; replace hx551_1 := cFr_ hx551_1 ⟨gb550, 1, none⟩ (.int .i64 ((rd_T39 l0_0 x34_2).f1)) hn551_1; replace hx551_0 := cFr_ hx551_0 ⟨gb550, 2, none⟩ (.int .i64 ((rd_T39 l0_0 x34_2).f2)) hn551_2; replace hx551_1 := cFr_ hx551_1 ⟨gb550, 2, none⟩ (.int .i64 ((rd_T39 l0_0 x34_2).f2)) hn551_2; replace hx551_0 := cFr_ hx551_0 ⟨gb550, 3, none⟩ (.int .i64 ((rd_T39 l0_0 x34_2).f3)) hn551_3; replace hx551_1 := cFr_ hx551_1 ⟨gb550, 3, none⟩ (.int .i64 ((rd_T39 l0_0 x34_2).f3)) hn551_3; clear hn551_0; clear hn551_1; clear hn551_2; clear hn551_3; replace p551 := eq_true p551; replace q551 := eq_true q551))
          go_roundg k2
          case measure => have := HJ2.out; have := HK2.out; omega
          case rel => exact ⟨(x7_2), (wrap64 (x34_2 + 1)), eS_, H', ⟨by have := HJ2.out; have := HK2.out; omega⟩, ⟨rFM_ HO_7 BK550⟩, ⟨sFN_ HO_546000⟩, ⟨rFM_ HO_546001 BK550⟩, ⟨rFM_ HO_546003 BK550⟩, ⟨bF_ BK532 NB532_550⟩, ⟨bF_ BK533 NB533_550⟩, ⟨bF_ BK545 NB545_550⟩, ⟨sABelo_19⟩⟩
       ·rw [if_neg c35] at H
        have c35b0 : decide (0 < ((rd_T39 l0_0 x34_2).f2)) = false := decide_eq_false c35
        clear c35; have H' := mk_ H; clear H
        have p549 : 0 ≤ (x34_2 : Int) := dA_
        have q549 : x34_2 < (l0_0.length : Int) := dA_
        obtain ⟨ad549, A549_0, c549_0, e549, hx549_0, hx549_1, hx549_2, hx549_3, hl549_0, hi549_0⟩ := at_T39 HR0_0.out x34_2 p549 q549
        cases e549
        replace hx549_0 := hX_ HB hx549_0
        replace hx549_1 := hX_ HB hx549_1
        replace hx549_2 := hX_ HB hx549_2
        replace hx549_3 := hX_ HB hx549_3
        have HR549_0 := mk_ hi549_0; have HC549_0 := mk_ hl549_0; clear hi549_0 hl549_0; replace p549 := eq_true p549; replace q549 := eq_true q549
        go_wp2_with (first | ((with_reducible refine gate_dst (N := 9) rfl ?_); refine box_event ?hg (N := 9) ?hd (cs := #[.slice none 0 0, .int .i64 0, .int .i64 0, .int .i64 0]) (t := 39) ?hr ?_; (case hd => rfl); (case hg => rfl); (case hr => first | (go_simp; done) | (go_simp; rfl)); intro gb550 hg w78 hbox hb; replace HO_7 := rB_ HO_7 hb; replace HO_546000 := mk_ (Kd.S_below (Kd.S_elderB (sT_ HO_546000) gb550 (Nat.le_of_eq hg.symm)) hb); replace HO_546001 := rB_ HO_546001 hb; replace HO_546003 := rB_ HO_546003 hb; have BK550 := mk_ (hbox); have GW550 := gE_ HB hg; have GE550 := gE_ HB hg; replace HB := bS_ HB hb; have NB532_550 := nL_ BK532 hg; have NB550_532 := nG_ BK532 hg; replace BK532 := bB_ BK532 hb; have NB533_550 := nL_ BK533 hg; have NB550_533 := nG_ BK533 hg; replace BK533 := bB_ BK533 hb; have NB545_550 := nL_ BK545 hg; have NB550_545 := nG_ BK545 hg; replace BK545 := bB_ BK545 hb; clear hb hbox hg; have hnb79 := NB550_532.out; have hnc79 := NB532_550.out; have hnb80 := NB550_533.out; have hnc80 := NB533_550.out; have hnb81 := NB550_545.out; have hnc81 := NB545_550.out; obtain ⟨hcz82_0, hcz82_1, hcz82_2, hcz82_3, hfz82_0, hfz82_1, hfz82_2, hfz82_3⟩ := cf4_ BK550))
        go_roundg k2
        case measure => have := HJ2.out; have := HK2.out; omega
        case rel => exact ⟨(x7_2), (wrap64 (x34_2 + 1)), eS_, H', ⟨by have := HJ2.out; have := HK2.out; omega⟩, ⟨rFM_ HO_7 BK550⟩, ⟨sFN_ HO_546000⟩, ⟨rFM_ HO_546001 BK550⟩, ⟨rFM_ HO_546003 BK550⟩, ⟨bF_ BK532 NB532_550⟩, ⟨bF_ BK533 NB533_550⟩, ⟨bF_ BK545 NB545_550⟩, ⟨sABelo_19⟩⟩
      ·rw [if_neg c32] at H
       have c32b0 := decide_eq_false c32
       clear c32
       simp only [Option.some.injEq, Prod.mk.injEq] at H
       obtain ⟨rfl, rfl, rfl, rfl, rfl⟩ := H
       have hnb83 := NB545_532.out; have hnc83 := NB532_545.out; have hnb84 := NB545_533.out; have hnc84 := NB533_545.out
       obtain ⟨hcz85_0, hcz85_1, hcz85_2, hcz85_3, hfz85_0, hfz85_1, hfz85_2, hfz85_3⟩ := cf4_ BK545; have hnb86 := NB533_532.out; have hnc86 := NB532_533.out
       obtain ⟨hcz87_0, hcz87_1, hcz87_2, hcz87_3, hfz87_0, hfz87_1, hfz87_2, hfz87_3⟩ := cf4_ BK533
       go_wp2
       refine bodyPost_ret (results_ct rfl _ _ gb533 31 #[.slice Ao23 t535.length co23, .slice Ao27 t538.length co27, .int .i64 (wrap64 (t541 + (ji18))), .slice Ao28 t542.length co28] (0, 0) _ rfl (bP_ BK533) Try.underlying31 rfl (by kernel_rfl)) rfl ?_
       exact ⟨_, _, _, _, by first | rfl | (simp [errW_none, errW_some] <;> rfl) | (simp only [← hji18]; first | rfl | (simp [errW_none, errW_some] <;> rfl)) | (simp [*, errW_none, errW_some] <;> rfl), by (with_reducible repeat (first | apply Kd.S_alloc | apply Kd.S_drewN | apply Kd.S_drew)); exact Kd.S_mono (Kd.S_far (p := ⟨gb533, 3, none⟩) (Kd.S_far (p := ⟨gb533, 2, none⟩) (Kd.S_far (p := ⟨gb533, 1, none⟩) (Kd.S_far (p := ⟨gb533, 0, none⟩) (Kd.S_types HO_546000.out BK533.out (by decide)) (fun _ hk => hk.2) (.slice Ao23 t535.length co23)) (fun _ hk => hk.2) (.slice Ao27 t538.length co27)) (fun _ hk => hk.2) (.int .i64 (wrap64 (t541 + (ji18))))) (fun _ hk => hk.2) (.slice Ao28 t542.length co28)) (fun _ hk => ⟨hk.1.2, hk.1.1⟩), by (with_reducible repeat (first | apply Kd.R_alloc | apply Kd.R_drewN | apply Kd.R_drew)); exact Kd.R_mono (Kd.R_far (p := ⟨gb533, 3, none⟩) (Kd.R_far (p := ⟨gb533, 2, none⟩) (Kd.R_far (p := ⟨gb533, 1, none⟩) (Kd.R_far (p := ⟨gb533, 0, none⟩) (Kd.R_types HO_546001.out BK533.out (by decide)) (fun _ hk => hk.2) (.slice Ao23 t535.length co23)) (fun _ hk => hk.2) (.slice Ao27 t538.length co27)) (fun _ hk => hk.2) (.int .i64 (wrap64 (t541 + (ji18))))) (fun _ hk => hk.2) (.slice Ao28 t542.length co28)) (fun _ hk => hk.1), by (with_reducible repeat (first | apply Kd.R_alloc | apply Kd.R_drewN | apply Kd.R_drew)); exact Kd.R_mono (Kd.R_far (p := ⟨gb533, 3, none⟩) (Kd.R_far (p := ⟨gb533, 2, none⟩) (Kd.R_far (p := ⟨gb533, 1, none⟩) (Kd.R_far (p := ⟨gb533, 0, none⟩) (Kd.R_types HO_546003.out BK533.out (by decide)) (fun _ hk => hk.2) (.slice Ao23 t535.length co23)) (fun _ hk => hk.2) (.slice Ao27 t538.length co27)) (fun _ hk => hk.2) (.int .i64 (wrap64 (t541 + (ji18))))) (fun _ hk => hk.2) (.slice Ao28 t542.length co28)) (fun _ hk => trivial), by (with_reducible repeat (first | apply Kd.R_alloc | apply Kd.R_drewN | apply Kd.R_drew)); exact Kd.R_mono (Kd.R_far (p := ⟨gb533, 3, none⟩) (Kd.R_far (p := ⟨gb533, 2, none⟩) (Kd.R_far (p := ⟨gb533, 1, none⟩) (Kd.R_far (p := ⟨gb533, 0, none⟩) (Kd.R_types HO_7.out BK533.out (by decide)) (fun _ hk => hk.2) (.slice Ao23 t535.length co23)) (fun _ hk => hk.2) (.slice Ao27 t538.length co27)) (fun _ hk => hk.2) (.int .i64 (wrap64 (t541 + (ji18))))) (fun _ hk => hk.2) (.slice Ao28 t542.length co28)) (fun _ hk => hk.1), sABelo_19⟩

/-! ### laws_sameInts: function 26 -/
def laws_sameInts.l0 : Nat → List Int → List Int → Int → Option (Bool)
 | 0, _, _, _ => none
 | k + 1, x0, x1, x5 => if x5 < (x0.length : Int) then (if 0 ≤ x5 then (if x5 < (x1.length : Int) then (if (rd x0 x5) = (rd x1 x5) then (laws_sameInts.l0 k x0 x1 (wrap64 (x5 + 1))) else (some false)) else (none)) else (none)) else (some true)
def laws_sameInts.f (k : Nat) (l0 : List Int) (l1 : List Int) : Option (Bool) := if (l0.length : Int) = (l1.length : Int) then (laws_sameInts.l0 k l0 l1 0) else (some false)
theorem laws_sameInts.mono_l : ∀ k, (∀ y0 y1 y2, LeO (laws_sameInts.l0 k y0 y1 y2) (laws_sameInts.l0 (k + 1) y0 y1 y2))
 | 0 => fun _ _ _ r h => by simp [laws_sameInts.l0] at h
 | k + 1 => by
  have ih0 := laws_sameInts.mono_l k
  ·intro y0 y1 y2
   unfold laws_sameInts.l0
   repeat' first
   | (with_reducible exact ih0 _ _ _)
   | (with_reducible exact LeO.refl _)
   | (with_reducible exact LeO.none _)
   | (with_reducible refine LeO.ite ?_ ?_)
   | (with_reducible refine LeO.bind ?_ (fun _ => ?_))
   | exact ih0 _ _ _
   | exact LeO.none _
   | refine LeO.ite ?_ ?_
   | refine LeO.bind ?_ (fun _ => ?_)
theorem laws_sameInts.mono : ∀ a0 a1 k, LeO (laws_sameInts.f k a0 a1) (laws_sameInts.f (k + 1) a0 a1) := by
 intro a0 a1 k
 have ih0 := laws_sameInts.mono_l k
 unfold laws_sameInts.f
 repeat' first
   | (with_reducible exact ih0 _ _ _)
   | (with_reducible exact LeO.refl _)
   | (with_reducible exact LeO.none _)
   | (with_reducible refine LeO.ite ?_ ?_)
   | (with_reducible refine LeO.bind ?_ (fun _ => ?_))
   | exact ih0 _ _ _
   | exact LeO.none _
   | refine LeO.ite ?_ ?_
   | refine LeO.bind ?_ (fun _ => ?_)
set_option maxHeartbeats 8000000 in
set_option maxRecDepth 100000 in
theorem laws_sameInts.calls (k : Nat) (A0 : Option Addr) (c0 : Nat) (l0 : List Int) (A1 : Option Addr) (c1 : Nat) (l1 : List Int) (r : Bool) (w : World) (hr0 : Kd.C (Kd.int .i64) w A0 l0.length l0) (hc0 : l0.length ≤ c0) (hr1 : Kd.C (Kd.int .i64) w A1 l1.length l1) (hc1 : l1.length ≤ c1) (h : laws_sameInts.f k l0 l1 = some r) :
  Calls Try.prog 26 #[.slice A0 l0.length c0, .slice A1 l1.length c1] w fun e w' => e = .returned (.bool r) ∧ Drawn0 w w' := by
 have HR0 := mk_ hr0; have HC0 := mk_ hc0; clear hr0 hc0; have HR1 := mk_ hr1; have HC1 := mk_ hc1; clear hr1 hc1
 have H : (if (l0.length : Int) = (l1.length : Int) then (laws_sameInts.l0 k l0 l1 0) else (some false)) = some r := h
 clear h
 by_cases c3 : (l0.length : Int) = (l1.length : Int)
 ·rw [if_pos c3] at H
  have c3b0 := beq_iff_eq.mpr c3
  have c3b1 := bne_eq_false_iff_eq.mpr c3
  have c3b2 : (l0.length == l1.length) = true := by first | simpa using c3 | (simp at c3 ⊢; omega)
  clear c3; have H' := mk_ H; clear H
  go_enter Try.func26, Try.ntmps26
  go_wp2
  repeat (go_quiet (fail); try go_wp2)
  go_loopg [5] k (fun kq v5 w' => ∃ (x5_1 : Int), v5 = .int .i64 x5_1 ∧ Aside0 (laws_sameInts.l0 kq l0 l1 x5_1 = some r) ∧ Aside0 (kq ≤ k) ∧ Drawn0 w w')
  case atStart => exact ⟨(0), eS_, H', ⟨Nat.le_refl _⟩, by repeat (first | exact Drawn0.refl _ | apply Drawn0.step)⟩
  case round =>
   clear H'; (try clear c1); (try clear c3); (try clear c3b0); (try clear c3b1); (try clear c3b2)
   obtain ⟨x5_1, rfl, HA, HK1, ⟨m1, rfl⟩⟩ := hrel
   cases gk with
   | zero => exact absurd HA.out (by simp [laws_sameInts.l0])
   | succ k1 =>
    have H := HA.out; clear HA
    simp only [laws_sameInts.l0] at H
    by_cases c4 : x5_1 < (l0.length : Int)
    ·rw [if_pos c4] at H
     have c4b0 := decide_eq_true c4
     clear c4
     obtain ⟨c5, H⟩ := ifS_ H
     have c5b0 : decide (0 ≤ x5_1) = true := decide_eq_true c5
     clear c5
     obtain ⟨c6, H⟩ := ifS_ H
     have c6b0 : decide (x5_1 < (l1.length : Int)) = true := decide_eq_true c6
     clear c6
     by_cases c7 : (rd l0 x5_1) = (rd l1 x5_1)
     ·rw [if_pos c7] at H
      have c7b0 := beq_iff_eq.mpr c7
      have c7b1 := bne_eq_false_iff_eq.mpr c7
      clear c7; have H' := mk_ H; clear H
      have p555 : 0 ≤ (x5_1 : Int) := dA_
      have q555 : x5_1 < (l0.length : Int) := dA_
      obtain ⟨ad555, e555, hx555_0⟩ := Kd.at_int HR0.out x5_1 p555 q555
      cases e555
      replace p555 := eq_true p555; replace q555 := eq_true q555
      have p556 : 0 ≤ (x5_1 : Int) := dA_
      have q556 : x5_1 < (l1.length : Int) := dA_
      obtain ⟨ad556, e556, hx556_0⟩ := Kd.at_int HR1.out x5_1 p556 q556
      cases e556
      replace p556 := eq_true p556; replace q556 := eq_true q556
      go_wp2
      repeat (go_quiet (fail); try go_wp2)
      go_roundg k1
      case measure => have := HK1.out; omega
      case rel => exact ⟨(wrap64 (x5_1 + 1)), eS_, H', ⟨by have := HK1.out; omega⟩, by repeat (first | exact Drawn0.refl _ | apply Drawn0.step)⟩
     ·rw [if_neg c7] at H
      have c7b0 := beq_eq_false_iff_ne.mpr c7
      have c7b1 := bne_iff_ne.mpr c7
      obtain rfl := Option.some.inj H
      have p555 : 0 ≤ (x5_1 : Int) := dA_
      have q555 : x5_1 < (l0.length : Int) := dA_
      obtain ⟨ad555, e555, hx555_0⟩ := Kd.at_int HR0.out x5_1 p555 q555
      cases e555
      replace p555 := eq_true p555; replace q555 := eq_true q555
      have p556 : 0 ≤ (x5_1 : Int) := dA_
      have q556 : x5_1 < (l1.length : Int) := dA_
      obtain ⟨ad556, e556, hx556_0⟩ := Kd.at_int HR1.out x5_1 p556 q556
      cases e556
      replace p556 := eq_true p556; replace q556 := eq_true q556
      go_wp2
      repeat (go_quiet (fail); try go_wp2)
      go_ret
      exact ⟨eS_, by repeat (first | exact Drawn0.refl _ | apply Drawn0.step)⟩
    ·rw [if_neg c4] at H
     have c4b0 := decide_eq_false c4
     clear c4
     obtain rfl := Option.some.inj H
     go_wp2
     repeat (go_quiet (fail); try go_wp2)
     go_ret
     exact ⟨eS_, by repeat (first | exact Drawn0.refl _ | apply Drawn0.step)⟩
 ·rw [if_neg c3] at H
  have c3b0 := beq_eq_false_iff_ne.mpr c3
  have c3b1 := bne_iff_ne.mpr c3
  have c3b2 : (l0.length == l1.length) = false := by first | simpa using c3 | (simp at c3 ⊢; omega)
  obtain rfl := Option.some.inj H
  go_enter Try.func26, Try.ntmps26
  go_wp2
  repeat (go_quiet (fail); try go_wp2)
  go_ret
  exact ⟨eS_, by repeat (first | exact Drawn0.refl _ | apply Drawn0.step)⟩

end Go.Proofs.Ytjoghfehmhapbaa.QFnLateOnce
