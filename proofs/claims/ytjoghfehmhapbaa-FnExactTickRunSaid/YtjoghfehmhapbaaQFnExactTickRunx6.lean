-- Written by a program of this session out of the printer's texts and contracts of its own.
import Derived.Test.YtjoghfehmhapbaaSq
import Derived.Test.YtjoghfehmhapbaaQFnExactTickRunx0
import Derived.Test.YtjoghfehmhapbaaQFnExactTickRunx4
import Derived.Test.YtjoghfehmhapbaaQFnExactTickRunx5
namespace Go.Proofs.Ytjoghfehmhapbaa.QFnExactTickRun
open Go.RowKit Go.Proofs.YtjoghfehmhapbaaW.PrintWords Go.Proofs.YtjoghfehmhapbaaW.PrintLast Go.Proofs.YtjoghfehmhapbaaW.PrintMore Go.Proofs.Ytjoghfehmhapbaa.Sq
attribute [local go_sem] max2_int min2_int max_two min_two max_three min_three max_four min_four   -- for this text's walks alone
set_option linter.unusedVariables false
set_option linter.unusedSimpArgs false
theorem sABelo_6 {b : Nat} {w W : World} (h : Below b w W := by repeat (first | (with_reducible first | exact Aside0.out (by assumption) | apply below_alloc | apply pw_below_drewN | apply below_drew1 | refine below_set ?_ (Aside0.out (by assumption))) | exact Aside0.out (by assumption))) : Below b w W := h

/-! ### spec_TickRun: function 24 -/
mutual
def spec_TickRun.j0 : Nat → Int → List Int → Bool → List (S39) → List Int → Int → List (S43) → Option ((List (S39)) × List Int × Int × (List (S43)) × List Int)
 | 0, _, _, _, _, _, _, _ => none
 | k + 1, x1, x6, x17, x168000, x168001, x168002, x168003 => if x17 = true then (some (([] : List (S39)), ([] : List Int), 0, ([] : List (S43)), x6)) else ((spec_l24Copy.f k x168000 x168001 x168002 x168003).bind fun bt173 => (spec_TickRun.l0 k x6 0 x168000 x168001 x168002 x168003 bt173.1 bt173.2.1 (mn (wrap64 (x168002 + (mn x1 1000000000000))) 1000000000000) bt173.2.2.2))
def spec_TickRun.l0 : Nat → List Int → Int → List (S39) → List Int → Int → List (S43) → List (S39) → List Int → Int → List (S43) → Option ((List (S39)) × List Int × Int × (List (S43)) × List Int)
 | 0, _, _, _, _, _, _, _, _, _, _ => none
 | k + 1, x6, x8, x168000, x168001, x168002, x168003, x184000, x184001, x184002, x184003 => if x8 < (x168003.length : Int) then (if 0 ≤ x8 then (if x8 < (x168000.length : Int) then (if ((rd_T39 x168000 x8).f2) > 0 then (if ((rd_T43 x168003 x8).f0) = 2 then (spec_TickRun.l0 k x6 (wrap64 (x8 + 1)) x168000 x168001 x168002 x168003 x184000 x184001 x184002 x184003) else (if ((rd_T39 x168000 x8).f2) ≥ x168002 then (if ((rd_T39 x168000 x8).f2) < x184002 then (if x6.length < 17592186044416 then (spec_TickRun.l0 k (x6 ++ [wrap64 (x8 + 1)]) (wrap64 (x8 + 1)) x168000 x168001 x168002 x168003 x184000 x184001 x184002 x184003) else (none)) else (spec_TickRun.l0 k x6 (wrap64 (x8 + 1)) x168000 x168001 x168002 x168003 x184000 x184001 x184002 x184003)) else (spec_TickRun.l0 k x6 (wrap64 (x8 + 1)) x168000 x168001 x168002 x168003 x184000 x184001 x184002 x184003))) else (spec_TickRun.l0 k x6 (wrap64 (x8 + 1)) x168000 x168001 x168002 x168003 x184000 x184001 x184002 x184003)) else (none)) else (none)) else (some (x184000, x184001, x184002, x184003, x6))
end
def spec_TickRun.f (k : Nat) (l0_0 : List (S39)) (l0_1 : List Int) (a0_2 : Int) (l0_3 : List (S43)) (a1 : Int) : Option ((List (S39)) × List Int × Int × (List (S43)) × List Int) := (some (([] : List Int) : List Int)).bind fun y169 => ((spec_l24Ok.f k l0_0 l0_1 a0_2 l0_3).bind fun t172 => (if t172 = true then (spec_TickRun.j0 k a1 y169 (decide (a1 < 0)) l0_0 l0_1 a0_2 l0_3) else (spec_TickRun.j0 k a1 y169 true l0_0 l0_1 a0_2 l0_3)))
theorem spec_TickRun.mono_l : ∀ k, (∀ y0 y1 y2 y3 y4 y5 y6, LeO (spec_TickRun.j0 k y0 y1 y2 y3 y4 y5 y6) (spec_TickRun.j0 (k + 1) y0 y1 y2 y3 y4 y5 y6)) ∧ (∀ y0 y1 y2 y3 y4 y5 y6 y7 y8 y9, LeO (spec_TickRun.l0 k y0 y1 y2 y3 y4 y5 y6 y7 y8 y9) (spec_TickRun.l0 (k + 1) y0 y1 y2 y3 y4 y5 y6 y7 y8 y9))
 | 0 => ⟨fun _ _ _ _ _ _ _ r h => by simp [spec_TickRun.j0] at h, fun _ _ _ _ _ _ _ _ _ _ r h => by simp [spec_TickRun.l0] at h⟩
 | k + 1 => by
  obtain ⟨ih0, ih1⟩ := spec_TickRun.mono_l k
  refine ⟨?_, ?_⟩
  intro y0 y1 y2 y3 y4 y5 y6; unfold spec_TickRun.j0; rotate_left
  intro y0 y1 y2 y3 y4 y5 y6 y7 y8 y9; unfold spec_TickRun.l0; rotate_left
  all_goals repeat' first
  | (with_reducible exact ih0 _ _ _ _ _ _ _)
  | (with_reducible exact ih1 _ _ _ _ _ _ _ _ _ _)
  | (with_reducible exact spec_l24Copy.mono _ _ _ _ _)
  | (with_reducible exact spec_l24Ok.mono _ _ _ _ _)
  | (with_reducible exact LeO.refl _)
  | (with_reducible exact LeO.none _)
  | (with_reducible refine LeO.ite ?_ ?_)
  | (with_reducible refine LeO.bind ?_ (fun _ => ?_))
  | exact ih0 _ _ _ _ _ _ _
  | exact ih1 _ _ _ _ _ _ _ _ _ _
  | exact spec_l24Copy.mono _ _ _ _ _
  | exact spec_l24Ok.mono _ _ _ _ _
  | exact LeO.none _
  | refine LeO.ite ?_ ?_
  | refine LeO.bind ?_ (fun _ => ?_)
theorem spec_TickRun.mono : ∀ a0 a1 a2 a3 a4 k, LeO (spec_TickRun.f k a0 a1 a2 a3 a4) (spec_TickRun.f (k + 1) a0 a1 a2 a3 a4) := by
 intro a0 a1 a2 a3 a4 k
 obtain ⟨ih0, ih1⟩ := spec_TickRun.mono_l k
 unfold spec_TickRun.f
 repeat' first
   | (with_reducible exact ih0 _ _ _ _ _ _ _)
   | (with_reducible exact ih1 _ _ _ _ _ _ _ _ _ _)
   | (with_reducible exact spec_l24Copy.mono _ _ _ _ _)
   | (with_reducible exact spec_l24Ok.mono _ _ _ _ _)
   | (with_reducible exact LeO.refl _)
   | (with_reducible exact LeO.none _)
   | (with_reducible refine LeO.ite ?_ ?_)
   | (with_reducible refine LeO.bind ?_ (fun _ => ?_))
   | exact ih0 _ _ _ _ _ _ _
   | exact ih1 _ _ _ _ _ _ _ _ _ _
   | exact spec_l24Copy.mono _ _ _ _ _
   | exact spec_l24Ok.mono _ _ _ _ _
   | exact LeO.none _
   | refine LeO.ite ?_ ?_
   | refine LeO.bind ?_ (fun _ => ?_)
set_option maxHeartbeats 8000000 in
set_option maxRecDepth 100000 in
theorem spec_TickRun.calls (k : Nat) (A0_0 : Option Addr) (c0_0 : Nat) (l0_0 : List (S39)) (A0_1 : Option Addr) (c0_1 : Nat) (l0_1 : List Int) (a0_2 : Int) (A0_3 : Option Addr) (c0_3 : Nat) (l0_3 : List (S43)) (a1 : Int) (r1 : List (S39)) (r2 : List Int) (r3 : Int) (r4 : List (S43)) (r5 : List Int) (w : World) (hr0_0 : Kd.C k39 w A0_0 l0_0.length l0_0) (hc0_0 : l0_0.length ≤ c0_0) (hr0_1 : Kd.C (Kd.int .i64) w A0_1 l0_1.length l0_1) (hc0_1 : l0_1.length ≤ c0_1) (hr0_3 : Kd.C k43 w A0_3 l0_3.length l0_3) (hc0_3 : l0_3.length ≤ c0_3) (h : spec_TickRun.f k l0_0 l0_1 a0_2 l0_3 a1 = some (r1, r2, r3, r4, r5)) :
  Calls Try.prog 24 #[.agg #[.slice A0_0 l0_0.length c0_0, .slice A0_1 l0_1.length c0_1, .int .i64 a0_2, .slice A0_3 l0_3.length c0_3], .int .i64 a1] w fun e w' => ∃ v0_ v1_ v3_ v4_ : Value, e = .returned (.tuple #[.agg #[v0_, v1_, .int .i64 r3, v3_], v4_]) ∧ Kd.S k39 39 w' w.heap.size (fun k_ => some k_ ≠ (v1_ : Value).ownBlock ∧ some k_ ≠ (v4_ : Value).ownBlock) v0_ r1 ∧ Kd.R (Kd.int .i64) 2 w' w.heap.size (fun k_ => some k_ ≠ (v4_ : Value).ownBlock) v1_ r2 ∧ Kd.R k43 43 w' w.heap.size (fun _ => True) v3_ r4 ∧ Kd.R (Kd.int .i64) 2 w' w.heap.size (fun k_ => some k_ ≠ (v1_ : Value).ownBlock) v4_ r5 ∧ Below w.heap.size w w' := by
 have hu31 := Try.underlying31; have hu39 := Try.underlying39; have HR0_0 := Aside0.mk hr0_0; have HC0_0 := Aside0.mk hc0_0; clear hr0_0 hc0_0; have HR0_1 := Aside0.mk hr0_1; have HC0_1 := Aside0.mk hc0_1; clear hr0_1 hc0_1; have HR0_3 := Aside0.mk hr0_3; have HC0_3 := Aside0.mk hc0_3; clear hr0_3 hc0_3
 have HB := Aside0.mk (Below.refl w.heap.size w)
 have H : ((some (([] : List Int) : List Int)).bind fun y169 => ((spec_l24Ok.f k l0_0 l0_1 a0_2 l0_3).bind fun t172 => (if t172 = true then (spec_TickRun.j0 k a1 y169 (decide (a1 < 0)) l0_0 l0_1 a0_2 l0_3) else (spec_TickRun.j0 k a1 y169 true l0_0 l0_1 a0_2 l0_3)))) = some (r1, r2, r3, r4, r5) := h
 clear h
 obtain ⟨y169, hy169⟩ : ∃ y_ : List Int, y_ = (([] : List Int)) := ⟨_, rfl⟩
 replace H : ((spec_l24Ok.f k l0_0 l0_1 a0_2 l0_3).bind fun t172 => (if t172 = true then (spec_TickRun.j0 k a1 y169 (decide (a1 < 0)) l0_0 l0_1 a0_2 l0_3) else (spec_TickRun.j0 k a1 y169 true l0_0 l0_1 a0_2 l0_3))) = some (r1, r2, r3, r4, r5) := by first | (rw [hy169]; with_reducible exact H) | (have H2_ := (Option.bind_some _ _).symm.trans H; rw [hy169]; with_reducible exact H2_) | (have H2_ := (Option.bind_some _ _).symm.trans H; with_reducible exact H2_) | with_reducible exact H | (rw [hy169]; exact H) | exact H
 have Ny169 := Aside0.mk hy169; clear hy169; have HC3 := Aside0.mk H; clear H
 go_enter Try.func24, Try.ntmps24
 go_upto_region 2 with (first | ((with_reducible refine gate_dst (N := 2) rfl ?_); refine box_event ?hg (N := 2) ?hd (cs := #[.slice A0_0 l0_0.length c0_0, .slice A0_1 l0_1.length c0_1, .int .i64 a0_2, .slice A0_3 l0_3.length c0_3]) (t := 31) ?hr ?_; (case hd => rfl); (case hg => rfl); (case hr => first | (go_simp; done) | (go_simp; rfl)); intro gb167 hg w4 hbox hb; have BK167 := Aside0.mk (hbox); have GW167 := gE_ HB hg; have GE167 := gE_ HB hg; replace HB := bS_ HB hb; clear hb hbox hg) | ((with_reducible refine gate_dst (N := 4) rfl ?_); refine box_event ?hg (N := 4) ?hd (cs := #[.slice none 0 0, .slice none 0 0, .int .i64 0, .slice none 0 0]) (t := 31) ?hr ?_; (case hd => rfl); (case hg => rfl); (case hr => first | (go_simp; done) | (go_simp; rfl)); intro gb168 hg w5 hbox hb; have BK168 := Aside0.mk (hbox); have GW168 := gE_ HB hg; have GE168 := gE_ HB hg; replace HB := bS_ HB hb; have NB167_168 := nL_ BK167 hg; have NB168_167 := nG_ BK167 hg; replace BK167 := bB_ BK167 hb; clear hb hbox hg) | ((with_reducible refine gate_dst (N := 10) rfl ?_); refine Kd.R_lit (Kd.int .i64) _ 2 ?hg (N := 10) ?hd (xs := ([] : List Int)) (inner := []) (ok := fun _ => True) (okp := fun _ => True) ?hr ?hp (fun _ hk => hk) trivial (Below.refl _ _) (Nat.le_refl _) (by simp) ?_; (case hd => rfl); (case hg => rfl); (case hr => first | (go_simp; done) | (go_simp; rfl)); (case hp => exact (Reps.none _ _)); intro v170 w6 ho7 hb hg_ hnew_; clear hg_ hnew_; (first | rw [← Ny169.out] at ho7 | (simp only [Int.reduceToNat] at ho7; rw [← Ny169.out] at ho7)); have HO171 := rL_ ho7 HB; replace BK167 := bB_ BK167 hb; replace BK168 := bB_ BK168 hb; replace HB := bS_ HB hb; clear hb ho7))
 (try simp only [Act.put, List.setIfInBounds_toArray, List.set_cons_zero, List.set_cons_succ])
 go_cut [17] (fun v17 wc => ∃ (kq : Nat) (x17_2 : Bool), v17 = .bool x17_2 ∧ Aside0 (spec_TickRun.j0 kq a1 y169 x17_2 l0_0 l0_1 a0_2 l0_3 = some (r1, r2, r3, r4, r5)) ∧ Aside0 (kq ≤ k) ∧ Aside0 (Kd.R (Kd.int .i64) 2 wc w.heap.size (fun _ => True) v170 y169) ∧ Aside0 (wc.heap[gb167]? = some (.cells #[(.slice A0_0 l0_0.length c0_0), (.slice A0_1 l0_1.length c0_1), .int .i64 a0_2, (.slice A0_3 l0_3.length c0_3)] 31 (0, 0))) ∧ Aside0 (wc.heap[gb168]? = some (.cells #[(.slice none 0 0), (.slice none 0 0), .int .i64 0, (.slice none 0 0)] 31 (0, 0))) ∧ Aside0 (Below w.heap.size w wc))
 case first =>
  have H := HC3.out; clear HC3; replace H := Option.bind_eq_some_iff.mp H
  obtain ⟨t172, A80, H⟩ := H
  replace H : (if t172 = true then (spec_TickRun.j0 k a1 y169 (decide (a1 < 0)) l0_0 l0_1 a0_2 l0_3) else (spec_TickRun.j0 k a1 y169 true l0_0 l0_1 a0_2 l0_3)) = some (r1, r2, r3, r4, r5) := H
  have A8 := Aside0.mk A80; clear A80
  by_cases c9 : t172 = true
  ·subst c9
   replace H := ifT_ H; have H' := Aside0.mk H; clear H; have hnb10 := NB167_168.out; have hnc10 := NB168_167.out
   obtain ⟨hcz11_0, hcz11_1, hcz11_2, hcz11_3, hfz11_0, hfz11_1, hfz11_2, hfz11_3⟩ := cf4_ BK167
   go_wp2_with (first | ((with_reducible refine gate_callee (f := 58) rfl ?_); refine gL_ (some 12) Try.func58 #[.agg #[.slice A0_0 l0_0.length c0_0, .slice A0_1 l0_1.length c0_1, .int .i64 a0_2, .slice A0_3 l0_3.length c0_3]] ?_; (with_reducible refine (spec_l24Ok.calls k _ _ l0_0 _ _ l0_1 a0_2 _ _ l0_3 true _ ?side1 ?side2 ?side3 ?side4 ?side5 ?side6 A8.out).mono ?_); (case side1 => exact cB_ HR0_0 HB); (case side2 => exact HC0_0.out); (case side3 => exact cB_ HR0_1 HB); (case side4 => exact HC0_1.out); (case side5 => exact cB_ HR0_3 HB); (case side6 => exact HC0_3.out); rintro e w12 ⟨rfl, hb⟩; refine ⟨_, rfl, ?_⟩; replace HO171 := rB_ HO171 hb; replace BK167 := bB_ BK167 hb; replace BK168 := bB_ BK168 hb; replace HB := bS_ HB hb; (try clear hb); (try clear hk)))
   go_meet
   case rel => exact ⟨_, (decide (a1 < 0)), (by first | rfl | (simp; done) | (simp [*]; done)), H', ⟨by first | omega | exact Nat.le_refl _⟩, ⟨rT_ HO171⟩, ⟨bT_ BK167⟩, ⟨bT_ BK168⟩, ⟨sABelo_6⟩⟩
  ·replace c9 := Bool.eq_false_iff.mpr c9
   subst c9
   replace H := ifF_ H; have H' := Aside0.mk H; clear H; have hnb13 := NB167_168.out; have hnc13 := NB168_167.out
   obtain ⟨hcz14_0, hcz14_1, hcz14_2, hcz14_3, hfz14_0, hfz14_1, hfz14_2, hfz14_3⟩ := cf4_ BK167
   go_wp2_with (first | ((with_reducible refine gate_callee (f := 58) rfl ?_); refine gL_ (some 12) Try.func58 #[.agg #[.slice A0_0 l0_0.length c0_0, .slice A0_1 l0_1.length c0_1, .int .i64 a0_2, .slice A0_3 l0_3.length c0_3]] ?_; (with_reducible refine (spec_l24Ok.calls k _ _ l0_0 _ _ l0_1 a0_2 _ _ l0_3 false _ ?side1 ?side2 ?side3 ?side4 ?side5 ?side6 A8.out).mono ?_); (case side1 => exact cB_ HR0_0 HB); (case side2 => exact HC0_0.out); (case side3 => exact cB_ HR0_1 HB); (case side4 => exact HC0_1.out); (case side5 => exact cB_ HR0_3 HB); (case side6 => exact HC0_3.out); rintro e w15 ⟨rfl, hb⟩; refine ⟨_, rfl, ?_⟩; replace HO171 := rB_ HO171 hb; replace BK167 := bB_ BK167 hb; replace BK168 := bB_ BK168 hb; replace HB := bS_ HB hb; (try clear hb); (try clear hk)))
   go_meet
   case rel => exact ⟨_, (true), (by first | rfl | (simp; done) | (simp [*]; done)), H', ⟨by first | omega | exact Nat.le_refl _⟩, ⟨rT_ HO171⟩, ⟨bT_ BK167⟩, ⟨bT_ BK168⟩, ⟨sABelo_6⟩⟩
 case rest =>
  clear HC3
  obtain ⟨kq, x17_2, rfl, HA, HJ2, HO_6, BK167, BK168, HB⟩ := hcut
  cases kq with
  | zero => exact absurd HA.out (by simp [spec_TickRun.j0])
  | succ kj2 =>
   have H := HA.out; clear HA
   simp only [spec_TickRun.j0] at H
   by_cases c16 : x17_2 = true
   ·subst c16
    replace H := ifT_ H
    simp only [Option.some.injEq, Prod.mk.injEq] at H
    obtain ⟨rfl, rfl, rfl, rfl, rfl⟩ := H
    have hnb17 := NB168_167.out; have hnc17 := NB167_168.out
    obtain ⟨hcz18_0, hcz18_1, hcz18_2, hcz18_3, hfz18_0, hfz18_1, hfz18_2, hfz18_3⟩ := cf4_ BK168
    go_wp2
    refine bodyPost_ret (results_ct rfl _ _ gb168 31 #[.slice none 0 0, .slice none 0 0, .int .i64 0, .slice none 0 0] (0, 0) _ rfl (bP_ BK168) Try.underlying31 rfl (by kernel_rfl)) rfl ?_
    exact ⟨_, _, _, _, by first | rfl | (simp [errW_none, errW_some] <;> rfl) | (simp [*, errW_none, errW_some] <;> rfl), by first | exact Kd.S_nil _ _ _ _ _ | exact Kd.N_nil _ _ _ _ _ | exact Kd.V_nil _ _ _ _ _ | exact Kd.Q_nil _ _ _ _ _ | exact Kd.R_nil _ _ _ _ _, by first | exact Kd.R_nil _ _ _ _ _ | exact Kd.N_nil _ _ _ _ _ | exact Kd.V_nil _ _ _ _ _ | exact Kd.Q_nil _ _ _ _ _ | exact Kd.S_nil _ _ _ _ _, by first | exact Kd.R_nil _ _ _ _ _ | exact Kd.N_nil _ _ _ _ _ | exact Kd.V_nil _ _ _ _ _ | exact Kd.Q_nil _ _ _ _ _ | exact Kd.S_nil _ _ _ _ _, by (with_reducible repeat (first | apply Kd.R_alloc | apply Kd.R_drewN | apply Kd.R_drew)); exact Kd.R_mono (Kd.R_far (p := ⟨gb168, 3, none⟩) (Kd.R_far (p := ⟨gb168, 2, none⟩) (Kd.R_far (p := ⟨gb168, 1, none⟩) (Kd.R_far (p := ⟨gb168, 0, none⟩) (Kd.R_types HO_6.out BK168.out (by decide)) (fun _ hk => hk.2) (.slice none 0 0)) (fun _ hk => hk.2) (.slice none 0 0)) (fun _ hk => hk.2) (.int .i64 0)) (fun _ hk => hk.2) (.slice none 0 0)) (fun _ hk => (by simp [Value.ownBlock])), sABelo_6⟩
   ·replace c16 := Bool.eq_false_iff.mpr c16
    subst c16
    replace H := ifF_ H; replace H := Option.bind_eq_some_iff.mp H
    obtain ⟨⟨t173, t176, t179, t180⟩, A190, H⟩ := H
    replace H : (spec_TickRun.l0 kj2 y169 0 l0_0 l0_1 a0_2 l0_3 t173 t176 (mn (wrap64 (a0_2 + (mn a1 1000000000000))) 1000000000000) t180) = some (r1, r2, r3, r4, r5) := H
    have A19 := Aside0.mk A190; clear A190
    obtain ⟨ji20, hji20⟩ : ∃ j_ : Int, (mn a1 1000000000000) = j_ := ⟨_, rfl⟩
    replace H : (spec_TickRun.l0 kj2 y169 0 l0_0 l0_1 a0_2 l0_3 t173 t176 (mn (wrap64 (a0_2 + (ji20))) 1000000000000) t180) = some (r1, r2, r3, r4, r5) := by first | (rw [hji20] at H; exact H) | (simp only [hji20] at H ⊢; exact H)
    (try rw [hji20] at A19)
    have hji20_ : (if 1000000000000 < a1 then 1000000000000 else a1) = ji20 := hji20
    obtain ⟨ji21, hji21⟩ : ∃ j_ : Int, (mn (wrap64 (a0_2 + (ji20))) 1000000000000) = j_ := ⟨_, rfl⟩
    replace H : (spec_TickRun.l0 kj2 y169 0 l0_0 l0_1 a0_2 l0_3 t173 t176 ji21 t180) = some (r1, r2, r3, r4, r5) := by first | (rw [hji21] at H; exact H) | (simp only [hji21] at H ⊢; exact H)
    (try rw [hji21] at A19)
    have hji21_ : (if 1000000000000 < (wrap64 (a0_2 + (ji20))) then 1000000000000 else (wrap64 (a0_2 + (ji20)))) = ji21 := hji21
    have H' := Aside0.mk H; clear H; have hnb22 := NB167_168.out; have hnc22 := NB168_167.out
    obtain ⟨hcz23_0, hcz23_1, hcz23_2, hcz23_3, hfz23_0, hfz23_1, hfz23_2, hfz23_3⟩ := cf4_ BK167
    go_wp2_with (first | ((with_reducible refine gate_callee (f := 59) rfl ?_); refine gL_ (some 21) Try.func59 #[.agg #[.slice A0_0 l0_0.length c0_0, .slice A0_1 l0_1.length c0_1, .int .i64 a0_2, .slice A0_3 l0_3.length c0_3]] ?_; (with_reducible refine (spec_l24Copy.calls kj2 _ _ l0_0 _ _ l0_1 a0_2 _ _ l0_3 t173 t176 t179 t180 _ ?side1 ?side2 ?side3 ?side4 ?side5 ?side6 A19.out).mono ?_); (case side1 => exact cB_ HR0_0 HB); (case side2 => exact HC0_0.out); (case side3 => exact cB_ HR0_1 HB); (case side4 => exact HC0_1.out); (case side5 => exact cB_ HR0_3 HB); (case side6 => exact HC0_3.out); rintro e w24 ⟨v174, v177, v181, rfl, ho0, ho1, ho2, hb⟩; refine ⟨_, rfl, ?_⟩; have HO175 := sL_ (Kd.S_new' ho0 (rLt_ HO_6)) HB; have HO178 := rL_ (rN_ ho1 HO_6) HB; replace HO_6 := rE_ HO_6 ho1 hb; have HO182 := rL_ ho2 HB; replace BK167 := bB_ BK167 hb; replace BK168 := bB_ BK168 hb; replace HB := bS_ HB hb; (try clear hb); (try clear hk); (try clear ho0); (try clear ho1); (try clear ho2)) | ((with_reducible refine gate_dst (N := 7) rfl ?_); refine box_event ?hg (N := 7) ?hd (cs := #[.slice none 0 0, .slice none 0 0, .int .i64 0, .slice none 0 0]) (t := 31) ?hr ?_; (case hd => rfl); (case hg => rfl); (case hr => first | (go_simp; done) | (go_simp; rfl)); intro gb183 hg w25 hbox hb; replace HO_6 := rB_ HO_6 hb; replace HO175 := sB_ HO175 hb; replace HO178 := rB_ HO178 hb; replace HO182 := rB_ HO182 hb; have BK183 := Aside0.mk (hbox); have GW183 := gE_ HB hg; have GE183 := gE_ HB hg; replace HB := bS_ HB hb; have NB167_183 := nL_ BK167 hg; have NB183_167 := nG_ BK167 hg; replace BK167 := bB_ BK167 hb; have NB168_183 := nL_ BK168 hg; have NB183_168 := nG_ BK168 hg; replace BK168 := bB_ BK168 hb; clear hb hbox hg; obtain ⟨Ao26, co26, eo26⟩ := Kd.S_slice HO175.out; subst eo26; have hnb27 := NB183_167.out; have hnc27 := NB167_183.out; have hnb28 := NB183_168.out; have hnc28 := NB168_183.out; obtain ⟨hcz29_0, hcz29_1, hcz29_2, hcz29_3, hfz29_0, hfz29_1, hfz29_2, hfz29_3⟩ := cf4_ BK183; obtain ⟨Ao30, co30, eo30⟩ := Kd.R_slice HO178.out; subst eo30; obtain ⟨Ao31, co31, eo31⟩ := Kd.R_slice HO182.out; subst eo31; obtain ⟨hcz32_0, hcz32_1, hcz32_2, hcz32_3, hfz32_0, hfz32_1, hfz32_2, hfz32_3⟩ := cf4_ BK167))
    go_loopg [6, 8] kj2 (fun kq v6 v8 w' => ∃ (x6_2 : List Int) (x8_2 : Int), v8 = .int .i64 x8_2 ∧ Aside0 (spec_TickRun.l0 kq x6_2 x8_2 l0_0 l0_1 a0_2 l0_3 t173 t176 ji21 t180 = some (r1, r2, r3, r4, r5)) ∧ Aside0 (kq ≤ kj2) ∧ Aside0 (Kd.R (Kd.int .i64) 2 w' w.heap.size (fun k_ => some k_ ≠ ((.slice Ao30 t176.length co30) : Value).ownBlock) v6 x6_2) ∧ Aside0 (Kd.S k39 39 w' w.heap.size (fun k_ => some k_ ≠ (v6 : Value).ownBlock ∧ some k_ ≠ ((.slice Ao30 t176.length co30) : Value).ownBlock) (.slice Ao26 t173.length co26) t173) ∧ Aside0 (Kd.R (Kd.int .i64) 2 w' w.heap.size (fun k_ => some k_ ≠ (v6 : Value).ownBlock) (.slice Ao30 t176.length co30) t176) ∧ Aside0 (Kd.R k43 43 w' w.heap.size (fun _ => True) (.slice Ao31 t180.length co31) t180) ∧ Aside0 (w'.heap[gb167]? = some (.cells #[(.slice A0_0 l0_0.length c0_0), (.slice A0_1 l0_1.length c0_1), .int .i64 a0_2, (.slice A0_3 l0_3.length c0_3)] 31 (0, 0))) ∧ Aside0 (w'.heap[gb168]? = some (.cells #[(.slice none 0 0), (.slice none 0 0), .int .i64 0, (.slice none 0 0)] 31 (0, 0))) ∧ Aside0 (w'.heap[gb183]? = some (.cells #[(.slice Ao26 t173.length co26), (.slice Ao30 t176.length co30), .int .i64 ji21, (.slice Ao31 t180.length co31)] 31 (0, 0))) ∧ Aside0 (Below w.heap.size w w'))
    case atStart => exact ⟨(y169), (0), (by first | rfl | (simp; done) | (simp [*]; done)), H', ⟨Nat.le_refl _⟩, ⟨rFM_ HO_6 BK183⟩, ⟨sFM_ HO175 BK183⟩, ⟨rFM_ HO178 BK183⟩, ⟨rFM_ HO182 BK183⟩, ⟨bF_ BK167 NB167_183⟩, ⟨bF_ BK168 NB168_183⟩, ⟨bP_ BK183⟩, ⟨sABelo_6⟩⟩
    case round =>
     clear H'; (try clear c16); (try clear hcz23_0); (try clear hcz23_1); (try clear hcz23_2); (try clear hcz23_3); (try clear hcz29_0); (try clear hcz29_1); (try clear hcz29_2); (try clear hcz29_3); (try clear hcz32_0); (try clear hcz32_1); (try clear hcz32_2); (try clear hcz32_3); (try clear hfz23_0); (try clear hfz23_1); (try clear hfz23_2); (try clear hfz23_3); (try clear hfz29_0); (try clear hfz29_1); (try clear hfz29_2); (try clear hfz29_3); (try clear hfz32_0); (try clear hfz32_1); (try clear hfz32_2); (try clear hfz32_3)
     obtain ⟨x6_2, x8_2, rfl, HA, HK2, HO_6, HO_184000, HO_184001, HO_184003, BK167, BK168, BK183, HB⟩ := hrel
     cases gk with
     | zero => exact absurd HA.out (by simp [spec_TickRun.l0])
     | succ k2 =>
      have H := HA.out; clear HA
      simp only [spec_TickRun.l0] at H
      by_cases c33 : x8_2 < (l0_3.length : Int)
      ·rw [if_pos c33] at H
       have c33b0 : decide (x8_2 < (l0_3.length : Int)) = true := decide_eq_true c33
       clear c33
       obtain ⟨c34, H⟩ := ifS_ H
       have c34b0 : decide (0 ≤ x8_2) = true := decide_eq_true c34
       clear c34
       obtain ⟨c35, H⟩ := ifS_ H
       have c35b0 : decide (x8_2 < (l0_0.length : Int)) = true := decide_eq_true c35
       clear c35
       by_cases c36 : ((rd_T39 l0_0 x8_2).f2) > 0
       ·rw [if_pos c36] at H
        have c36b0 : decide (0 < ((rd_T39 l0_0 x8_2).f2)) = true := decide_eq_true c36
        clear c36
        by_cases c37 : ((rd_T43 l0_3 x8_2).f0) = 2
        ·rw [if_pos c37] at H
         have c37b0 : (((rd_T43 l0_3 x8_2).f0) == 2) = true := beq_iff_eq.mpr c37
         have c37b1 : (((rd_T43 l0_3 x8_2).f0) != 2) = false := bne_eq_false_iff_eq.mpr c37
         clear c37; have H' := Aside0.mk H; clear H; have hnb38 := NB167_168.out; have hnc38 := NB168_167.out; have hnb39 := NB167_183.out; have hnc39 := NB183_167.out
         obtain ⟨hcz40_0, hcz40_1, hcz40_2, hcz40_3, hfz40_0, hfz40_1, hfz40_2, hfz40_3⟩ := cf4_ BK167
         have p184 : 0 ≤ (x8_2 : Int) := of_decide_eq_true (by first | (with_reducible assumption) | assumption)
         have q184 : x8_2 < (l0_0.length : Int) := of_decide_eq_true (by first | (with_reducible assumption) | assumption)
         obtain ⟨ad184, A184_0, c184_0, e184, hx184_0, hx184_1, hx184_2, hx184_3, hl184_0, hi184_0⟩ := at_T39 HR0_0.out x8_2 p184 q184
         cases e184
         replace hx184_0 := (HB.out.cell (World.block_lt_of_cell? w _ hx184_0)).trans hx184_0
         replace hx184_1 := (HB.out.cell (World.block_lt_of_cell? w _ hx184_1)).trans hx184_1
         replace hx184_2 := (HB.out.cell (World.block_lt_of_cell? w _ hx184_2)).trans hx184_2
         replace hx184_3 := (HB.out.cell (World.block_lt_of_cell? w _ hx184_3)).trans hx184_3
         have HR184_0 := Aside0.mk hi184_0; have HC184_0 := Aside0.mk hl184_0; clear hi184_0 hl184_0; replace p184 := eq_true p184; replace q184 := eq_true q184
         go_wp2_with (first | ((with_reducible refine gate_dst (N := 9) rfl ?_); refine box_event ?hg (N := 9) ?hd (cs := #[.slice none 0 0, .int .i64 0, .int .i64 0, .int .i64 0]) (t := 39) ?hr ?_; (case hd => rfl); (case hg => rfl); (case hr => first | (go_simp; done) | (go_simp; rfl)); intro gb185 hg w41 hbox hb; replace HO_6 := rB_ HO_6 hb; replace HO_184000 := Aside0.mk (Kd.S_below (Kd.S_elderB (sT_ HO_184000) gb185 (Nat.le_of_eq hg.symm)) hb); replace HO_184001 := rB_ HO_184001 hb; replace HO_184003 := rB_ HO_184003 hb; have BK185 := Aside0.mk (hbox); have GW185 := gE_ HB hg; have GE185 := gE_ HB hg; replace HB := bS_ HB hb; have NB167_185 := nL_ BK167 hg; have NB185_167 := nG_ BK167 hg; replace BK167 := bB_ BK167 hb; have NB168_185 := nL_ BK168 hg; have NB185_168 := nG_ BK168 hg; replace BK168 := bB_ BK168 hb; have NB183_185 := nL_ BK183 hg; have NB185_183 := nG_ BK183 hg; replace BK183 := bB_ BK183 hb; clear hb hbox hg; have hnb42 := NB185_167.out; have hnc42 := NB167_185.out; have hnb43 := NB185_168.out; have hnc43 := NB168_185.out; have hnb44 := NB185_183.out; have hnc44 := NB183_185.out; obtain ⟨hcz45_0, hcz45_1, hcz45_2, hcz45_3, hfz45_0, hfz45_1, hfz45_2, hfz45_3⟩ := cf4_ BK185; obtain ⟨hcz46_0, hcz46_1, hcz46_2, hcz46_3, hfz46_0, hfz46_1, hfz46_2, hfz46_3⟩ := cf4_ BK167; have p186 : 0 ≤ (x8_2 : Int) := of_decide_eq_true (by first | (with_reducible assumption) | assumption); have q186 : x8_2 < (l0_3.length : Int) := of_decide_eq_true (by first | (with_reducible assumption) | assumption); obtain ⟨ad186, e186, hx186_0, hx186_1⟩ := at_T43 HR0_3.out x8_2 p186 q186; cases e186; have hn186_0 : ad186.block ≠ gb185 := Nat.ne_of_lt (Nat.lt_of_lt_of_le (by have := World.block_lt_of_cell? _ _ hx186_0; first | rwa [add_block] at this | exact this) GW185.out); have hn186_1 : ad186.block ≠ gb185 := Nat.ne_of_lt (Nat.lt_of_lt_of_le (by have := World.block_lt_of_cell? _ _ hx186_0; first | rwa [add_block] at this | exact this) GW185.out); have hn186_2 : ad186.block ≠ gb185 := Nat.ne_of_lt (Nat.lt_of_lt_of_le (by have := World.block_lt_of_cell? _ _ hx186_0; first | rwa [add_block] at this | exact this) GW185.out); have hn186_3 : ad186.block ≠ gb185 := Nat.ne_of_lt (Nat.lt_of_lt_of_le (by have := World.block_lt_of_cell? _ _ hx186_0; first | rwa [add_block] at this | exact this) GW185.out); replace hx186_0 := (HB.out.cell (World.block_lt_of_cell? w _ hx186_0)).trans hx186_0; replace hx186_1 := (HB.out.cell (World.block_lt_of_cell? w _ hx186_1)).trans hx186_1; replace hx186_0 := (cell_far (p := ⟨gb185, 0, none⟩) (by first | (rw [add_block]; exact hn186_0) | (show (Addr.add _ _).block ≠ _; rw [add_block]; exact hn186_0) | exact hn186_0) (.slice A184_0 ((rd_T39 l0_0 x8_2).f0).length c184_0)).trans hx186_0; replace hx186_1 := (cell_far (p := ⟨gb185, 0, none⟩) (by first | (rw [add_block]; exact hn186_0) | (show (Addr.add _ _).block ≠ _; rw [add_block]; exact hn186_0) | exact hn186_0) (.slice A184_0 ((rd_T39 l0_0 x8_2).f0).length c184_0)).trans hx186_1; replace hx186_0 := (cell_far (p := ⟨gb185, 1, none⟩) (by first | (rw [add_block]; exact hn186_1) | (show (Addr.add _ _).block ≠ _; rw [add_block]; exact hn186_1) | exact hn186_1) (.int .i64 ((rd_T39 l0_0 x8_2).f1))).trans hx186_0; replace hx186_1 := (cell_far (p := ⟨gb185, 1, none⟩) (by first | (rw [add_block]; exact hn186_1) | (show (Addr.add _ _).block ≠ _; rw [add_block]; exact hn186_1) | exact hn186_1) (.int .i64 ((rd_T39 l0_0 x8_2).f1))).trans hx186_1; replace hx186_0 := (cell_far (p := ⟨gb185, 2, none⟩) (by first | (rw [add_block]; exact hn186_2) | (show (Addr.add _ _).block ≠ _; rw [add_block]; exact hn186_2) | exact hn186_2) (.int .i64 ((rd_T39 l0_0 x8_2).f2))).trans hx186_0; replace hx186_1 := (cell_far (p := ⟨gb185, 2, none⟩) (by first | (rw [add_block]; exact hn186_2) | (show (Addr.add _ _).block ≠ _; rw [add_block]; exact hn186_2) | exact hn186_2) (.int .i64 ((rd_T39 l0_0 x8_2).f2))).trans hx186_1; replace hx186_0 := (cell_far (p := ⟨gb185, 3, none⟩) (by first | (rw [add_block]; exact hn186_3) | (show (Addr.add _ _).block ≠ _; rw [add_block]; exact hn186_3) | exact hn186_3) (.int .i64 ((rd_T39 l0_0 x8_2).f3))).trans hx186_0; replace hx186_1 := (cell_far (p := ⟨gb185, 3, none⟩) (by first | (rw [add_block]; exact hn186_3) | (show (Addr.add _ _).block ≠ _; rw [add_block]; exact hn186_3) | exact hn186_3) (.int .i64 ((rd_T39 l0_0 x8_2).f3))).trans hx186_1; clear hn186_0; clear hn186_1; clear hn186_2; clear hn186_3; replace p186 := eq_true p186; replace q186 := eq_true q186))
         go_roundg k2
         case measure => have := HJ2.out; have := HK2.out; omega
         case rel => exact ⟨(x6_2), (wrap64 (x8_2 + 1)), (by first | rfl | (simp; done) | (simp [*]; done)), H', ⟨by have := HJ2.out; have := HK2.out; omega⟩, ⟨rFM_ HO_6 BK185⟩, ⟨sFN_ HO_184000⟩, ⟨rFM_ HO_184001 BK185⟩, ⟨rFM_ HO_184003 BK185⟩, ⟨bF_ BK167 NB167_185⟩, ⟨bF_ BK168 NB168_185⟩, ⟨bF_ BK183 NB183_185⟩, ⟨sABelo_6⟩⟩
        ·rw [if_neg c37] at H
         have c37b0 : (((rd_T43 l0_3 x8_2).f0) == 2) = false := beq_eq_false_iff_ne.mpr c37
         have c37b1 : (((rd_T43 l0_3 x8_2).f0) != 2) = true := bne_iff_ne.mpr c37
         by_cases c47 : ((rd_T39 l0_0 x8_2).f2) ≥ a0_2
         ·rw [if_pos c47] at H
          have c47b0 : decide (a0_2 ≤ ((rd_T39 l0_0 x8_2).f2)) = true := decide_eq_true c47
          clear c47
          by_cases c48 : ((rd_T39 l0_0 x8_2).f2) < ji21
          ·rw [if_pos c48] at H
           have c48b0 : decide (((rd_T39 l0_0 x8_2).f2) < ji21) = true := decide_eq_true c48
           clear c48
           obtain ⟨c49, H⟩ := ifS_ H
           have LMc49 := Aside0.mk c49; clear c49
           obtain ⟨y187, hy187⟩ : ∃ y_ : List Int, y_ = (x6_2 ++ [wrap64 (x8_2 + 1)]) := ⟨_, rfl⟩
           replace H : (spec_TickRun.l0 k2 y187 (wrap64 (x8_2 + 1)) l0_0 l0_1 a0_2 l0_3 t173 t176 ji21 t180) = some (r1, r2, r3, r4, r5) := by first | (rw [hy187]; with_reducible exact H) | (have H2_ := (Option.bind_some _ _).symm.trans H; rw [hy187]; with_reducible exact H2_) | (have H2_ := (Option.bind_some _ _).symm.trans H; with_reducible exact H2_) | with_reducible exact H | (rw [hy187]; exact H) | exact H
           have Ny187 := Aside0.mk hy187; clear hy187; have H' := Aside0.mk H; clear H; have hnb50 := NB167_168.out; have hnc50 := NB168_167.out; have hnb51 := NB167_183.out; have hnc51 := NB183_167.out
           obtain ⟨hcz52_0, hcz52_1, hcz52_2, hcz52_3, hfz52_0, hfz52_1, hfz52_2, hfz52_3⟩ := cf4_ BK167
           have p184 : 0 ≤ (x8_2 : Int) := of_decide_eq_true (by first | (with_reducible assumption) | assumption)
           have q184 : x8_2 < (l0_0.length : Int) := of_decide_eq_true (by first | (with_reducible assumption) | assumption)
           obtain ⟨ad184, A184_0, c184_0, e184, hx184_0, hx184_1, hx184_2, hx184_3, hl184_0, hi184_0⟩ := at_T39 HR0_0.out x8_2 p184 q184
           cases e184
           replace hx184_0 := (HB.out.cell (World.block_lt_of_cell? w _ hx184_0)).trans hx184_0
           replace hx184_1 := (HB.out.cell (World.block_lt_of_cell? w _ hx184_1)).trans hx184_1
           replace hx184_2 := (HB.out.cell (World.block_lt_of_cell? w _ hx184_2)).trans hx184_2
           replace hx184_3 := (HB.out.cell (World.block_lt_of_cell? w _ hx184_3)).trans hx184_3
           have HR184_0 := Aside0.mk hi184_0; have HC184_0 := Aside0.mk hl184_0; clear hi184_0 hl184_0; replace p184 := eq_true p184; replace q184 := eq_true q184
           go_wp2_with (first | ((with_reducible refine gate_dst (N := 9) rfl ?_); refine box_event ?hg (N := 9) ?hd (cs := #[.slice none 0 0, .int .i64 0, .int .i64 0, .int .i64 0]) (t := 39) ?hr ?_; (case hd => rfl); (case hg => rfl); (case hr => first | (go_simp; done) | (go_simp; rfl)); intro gb185 hg w53 hbox hb; replace HO_6 := rB_ HO_6 hb; replace HO_184000 := Aside0.mk (Kd.S_below (Kd.S_elderB (sT_ HO_184000) gb185 (Nat.le_of_eq hg.symm)) hb); replace HO_184001 := rB_ HO_184001 hb; replace HO_184003 := rB_ HO_184003 hb; have BK185 := Aside0.mk (hbox); have GW185 := gE_ HB hg; have GE185 := gE_ HB hg; replace HB := bS_ HB hb; have NB167_185 := nL_ BK167 hg; have NB185_167 := nG_ BK167 hg; replace BK167 := bB_ BK167 hb; have NB168_185 := nL_ BK168 hg; have NB185_168 := nG_ BK168 hg; replace BK168 := bB_ BK168 hb; have NB183_185 := nL_ BK183 hg; have NB185_183 := nG_ BK183 hg; replace BK183 := bB_ BK183 hb; clear hb hbox hg; have hnb54 := NB185_167.out; have hnc54 := NB167_185.out; have hnb55 := NB185_168.out; have hnc55 := NB168_185.out; have hnb56 := NB185_183.out; have hnc56 := NB183_185.out; obtain ⟨hcz57_0, hcz57_1, hcz57_2, hcz57_3, hfz57_0, hfz57_1, hfz57_2, hfz57_3⟩ := cf4_ BK185; obtain ⟨hcz58_0, hcz58_1, hcz58_2, hcz58_3, hfz58_0, hfz58_1, hfz58_2, hfz58_3⟩ := cf4_ BK167; have p186 : 0 ≤ (x8_2 : Int) := of_decide_eq_true (by first | (with_reducible assumption) | assumption); have q186 : x8_2 < (l0_3.length : Int) := of_decide_eq_true (by first | (with_reducible assumption) | assumption); obtain ⟨ad186, e186, hx186_0, hx186_1⟩ := at_T43 HR0_3.out x8_2 p186 q186; cases e186; have hn186_0 : ad186.block ≠ gb185 := Nat.ne_of_lt (Nat.lt_of_lt_of_le (by have := World.block_lt_of_cell? _ _ hx186_0; first | rwa [add_block] at this | exact this) GW185.out); have hn186_1 : ad186.block ≠ gb185 := Nat.ne_of_lt (Nat.lt_of_lt_of_le (by have := World.block_lt_of_cell? _ _ hx186_0; first | rwa [add_block] at this | exact this) GW185.out); have hn186_2 : ad186.block ≠ gb185 := Nat.ne_of_lt (Nat.lt_of_lt_of_le (by have := World.block_lt_of_cell? _ _ hx186_0; first | rwa [add_block] at this | exact this) GW185.out); have hn186_3 : ad186.block ≠ gb185 := Nat.ne_of_lt (Nat.lt_of_lt_of_le (by have := World.block_lt_of_cell? _ _ hx186_0; first | rwa [add_block] at this | exact this) GW185.out); replace hx186_0 := (HB.out.cell (World.block_lt_of_cell? w _ hx186_0)).trans hx186_0; replace hx186_1 := (HB.out.cell (World.block_lt_of_cell? w _ hx186_1)).trans hx186_1; replace hx186_0 := (cell_far (p := ⟨gb185, 0, none⟩) (by first | (rw [add_block]; exact hn186_0) | (show (Addr.add _ _).block ≠ _; rw [add_block]; exact hn186_0) | exact hn186_0) (.slice A184_0 ((rd_T39 l0_0 x8_2).f0).length c184_0)).trans hx186_0; replace hx186_1 := (cell_far (p := ⟨gb185, 0, none⟩) (by first | (rw [add_block]; exact hn186_0) | (show (Addr.add _ _).block ≠ _; rw [add_block]; exact hn186_0) | exact hn186_0) (.slice A184_0 ((rd_T39 l0_0 x8_2).f0).length c184_0)).trans hx186_1; replace hx186_0 := (cell_far (p := ⟨gb185, 1, none⟩) (by first | (rw [add_block]; exact hn186_1) | (show (Addr.add _ _).block ≠ _; rw [add_block]; exact hn186_1) | exact hn186_1) (.int .i64 ((rd_T39 l0_0 x8_2).f1))).trans hx186_0; replace hx186_1 := (cell_far (p := ⟨gb185, 1, none⟩) (by first | (rw [add_block]; exact hn186_1) | (show (Addr.add _ _).block ≠ _; rw [add_block]; exact hn186_1) | exact hn186_1) (.int .i64 ((rd_T39 l0_0 x8_2).f1))).trans hx186_1; replace hx186_0 := (cell_far (p := ⟨gb185, 2, none⟩) (by first | (rw [add_block]; exact hn186_2) | (show (Addr.add _ _).block ≠ _; rw [add_block]; exact hn186_2) | exact hn186_2) (.int .i64 ((rd_T39 l0_0 x8_2).f2))).trans hx186_0; replace hx186_1 := (cell_far (p := ⟨gb185, 2, none⟩) (by first | (rw [add_block]; exact hn186_2) | (show (Addr.add _ _).block ≠ _; rw [add_block]; exact hn186_2) | exact hn186_2) (.int .i64 ((rd_T39 l0_0 x8_2).f2))).trans hx186_1; replace hx186_0 := (cell_far (p := ⟨gb185, 3, none⟩) (by first | (rw [add_block]; exact hn186_3) | (show (Addr.add _ _).block ≠ _; rw [add_block]; exact hn186_3) | exact hn186_3) (.int .i64 ((rd_T39 l0_0 x8_2).f3))).trans hx186_0; replace hx186_1 := (cell_far (p := ⟨gb185, 3, none⟩) (by first | (rw [add_block]; exact hn186_3) | (show (Addr.add _ _).block ≠ _; rw [add_block]; exact hn186_3) | exact hn186_3) (.int .i64 ((rd_T39 l0_0 x8_2).f3))).trans hx186_1; clear hn186_0; clear hn186_1; clear hn186_2; clear hn186_3; replace p186 := eq_true p186; replace q186 := eq_true q186; have hnb59 := NB183_168.out; have hnc59 := NB168_183.out; obtain ⟨hcz60_0, hcz60_1, hcz60_2, hcz60_3, hfz60_0, hfz60_1, hfz60_2, hfz60_3⟩ := cf4_ BK183) | ((with_reducible refine gate_builtin (b := .append) (xs := #[.tmp 68, .tmp 71]) rfl ?_); at_builtin; refine Kd.R_append (Kd.int .i64) (w0 := w) w.heap.size rfl (.tmp 68) (.tmp 71) 25 2 (.int .i64 0) 8 rfl Try.underlying25 info2 rfl (by decide) (by omega) u6 x6_2 (wrap64 (x8_2 + 1)) [.int .i64 (wrap64 (x8_2 + 1))] (fun k_ => some k_ ≠ (.slice Ao30 t176.length co30 : Value).ownBlock) (fun _ => False) rfl (by first | (go_simp; done) | (go_simp; rfl)) ?aP (fun _ hk => hk.elim) ?aF ?aO ?aB ?aS ?aL ?_; (case aP => exact rfl); (case aB => exact sABelo_6); (case aF => exact (fun k_ hk => Kd.fresh' (rLt_ HO_184001) k_ hk)); (case aO => exact (rF_ HO_6 BK185)); (case aS => exact (below_size sABelo_6)); (case aL => have := LMc49.out; omega); intro v188 w61 ho hb hg hat; rw [← Ny187.out] at ho; replace HO_184000 := Aside0.mk (Kd.S_after (ok := (fun k_ => some k_ ≠ (.slice Ao30 t176.length co30 : Value).ownBlock ∧ k_ ≠ gb185)) (by (with_reducible repeat (first | apply Kd.S_alloc | apply Kd.S_drewN | apply Kd.S_drew)); exact Kd.S_mono (Kd.S_far (p := ⟨gb185, 3, none⟩) (Kd.S_far (p := ⟨gb185, 2, none⟩) (Kd.S_far (p := ⟨gb185, 1, none⟩) (Kd.S_far (p := ⟨gb185, 0, none⟩) (Kd.S_mono HO_184000.out (fun k_ hk => (⟨hk, hk.2⟩ : _ ∧ k_ ≠ gb185))) (fun _ hk => hk.2) (.slice A184_0 ((rd_T39 l0_0 x8_2).f0).length c184_0)) (fun _ hk => hk.2) (.int .i64 ((rd_T39 l0_0 x8_2).f1))) (fun _ hk => hk.2) (.int .i64 ((rd_T39 l0_0 x8_2).f2))) (fun _ hk => hk.2) (.int .i64 ((rd_T39 l0_0 x8_2).f3))) (fun _ hk => ⟨⟨hk.1.1.2, hk.1.2⟩, hk.1.1.1⟩)) hg hat); replace HO_184001 := Aside0.mk (Kd.R_after (ok := (fun _ => True)) (by (with_reducible repeat (first | apply Kd.R_alloc | apply Kd.R_drewN | apply Kd.R_drew)); exact Kd.R_mono (Kd.R_far (p := ⟨gb185, 3, none⟩) (Kd.R_far (p := ⟨gb185, 2, none⟩) (Kd.R_far (p := ⟨gb185, 1, none⟩) (Kd.R_far (p := ⟨gb185, 0, none⟩) (Kd.R_types HO_184001.out BK185.out (by decide)) (fun _ hk => hk.2) (.slice A184_0 ((rd_T39 l0_0 x8_2).f0).length c184_0)) (fun _ hk => hk.2) (.int .i64 ((rd_T39 l0_0 x8_2).f1))) (fun _ hk => hk.2) (.int .i64 ((rd_T39 l0_0 x8_2).f2))) (fun _ hk => hk.2) (.int .i64 ((rd_T39 l0_0 x8_2).f3))) (fun _ hk => ⟨trivial, hk.1⟩)) hg hat); replace HO_184003 := Aside0.mk (Kd.R_over' (rF_ HO_184003 BK185) (Kd.R_typed (rF_ HO_6 BK185)) (by decide) hg); replace BK167 := Aside0.mk (blk_grown (g := gb167) (o := .cells #[.slice (some ad184) l0_0.length c0_0, .slice A0_1 l0_1.length c0_1, .int .i64 a0_2, .slice (some ad186) l0_3.length c0_3] 31 (0, 0)) (bF_ BK167 NB167_185) hg (Kd.R_ne HO_6.out BK167.out (by decide))); replace BK168 := Aside0.mk (blk_grown (g := gb168) (o := .cells #[.slice none 0 0, .slice none 0 0, .int .i64 0, .slice none 0 0] 31 (0, 0)) (bF_ BK168 NB168_185) hg (Kd.R_ne HO_6.out BK168.out (by decide))); replace BK183 := Aside0.mk (blk_grown (g := gb183) (o := .cells #[.slice Ao26 t173.length co26, .slice Ao30 t176.length co30, .int .i64 ji21, .slice Ao31 t180.length co31] 31 (0, 0)) (bF_ BK183 NB183_185) hg (Kd.R_ne HO_6.out BK183.out (by decide))); replace BK185 := Aside0.mk (blk_grown (g := gb185) (o := .cells #[.slice A184_0 ((rd_T39 l0_0 x8_2).f0).length c184_0, .int .i64 ((rd_T39 l0_0 x8_2).f1), .int .i64 ((rd_T39 l0_0 x8_2).f2), .int .i64 ((rd_T39 l0_0 x8_2).f3)] 39 (0, 0)) (bP_ BK185) hg (Kd.R_ne HO_6.out BK185.out (by decide))); replace HB := Aside0.mk (hb); have HO189 := Aside0.mk (ho); clear HO_6; clear ho hb hg hat))
           go_roundg k2
           case measure => have := HJ2.out; have := HK2.out; omega
           case rel => exact ⟨(y187), (wrap64 (x8_2 + 1)), (by first | rfl | (simp; done) | (simp [*]; done)), H', ⟨by have := HJ2.out; have := HK2.out; omega⟩, ⟨rT_ HO189⟩, ⟨sM2_ HO_184000⟩, ⟨rM2_ HO_184001⟩, ⟨rT_ HO_184003⟩, ⟨bT_ BK167⟩, ⟨bT_ BK168⟩, ⟨bT_ BK183⟩, ⟨sABelo_6⟩⟩
          ·rw [if_neg c48] at H
           have c48b0 : decide (((rd_T39 l0_0 x8_2).f2) < ji21) = false := decide_eq_false c48
           clear c48; have H' := Aside0.mk H; clear H; have hnb62 := NB167_168.out; have hnc62 := NB168_167.out; have hnb63 := NB167_183.out; have hnc63 := NB183_167.out
           obtain ⟨hcz64_0, hcz64_1, hcz64_2, hcz64_3, hfz64_0, hfz64_1, hfz64_2, hfz64_3⟩ := cf4_ BK167
           have p184 : 0 ≤ (x8_2 : Int) := of_decide_eq_true (by first | (with_reducible assumption) | assumption)
           have q184 : x8_2 < (l0_0.length : Int) := of_decide_eq_true (by first | (with_reducible assumption) | assumption)
           obtain ⟨ad184, A184_0, c184_0, e184, hx184_0, hx184_1, hx184_2, hx184_3, hl184_0, hi184_0⟩ := at_T39 HR0_0.out x8_2 p184 q184
           cases e184
           replace hx184_0 := (HB.out.cell (World.block_lt_of_cell? w _ hx184_0)).trans hx184_0
           replace hx184_1 := (HB.out.cell (World.block_lt_of_cell? w _ hx184_1)).trans hx184_1
           replace hx184_2 := (HB.out.cell (World.block_lt_of_cell? w _ hx184_2)).trans hx184_2
           replace hx184_3 := (HB.out.cell (World.block_lt_of_cell? w _ hx184_3)).trans hx184_3
           have HR184_0 := Aside0.mk hi184_0; have HC184_0 := Aside0.mk hl184_0; clear hi184_0 hl184_0; replace p184 := eq_true p184; replace q184 := eq_true q184
           go_wp2_with (first | ((with_reducible refine gate_dst (N := 9) rfl ?_); refine box_event ?hg (N := 9) ?hd (cs := #[.slice none 0 0, .int .i64 0, .int .i64 0, .int .i64 0]) (t := 39) ?hr ?_; (case hd => rfl); (case hg => rfl); (case hr => first | (go_simp; done) | (go_simp; rfl)); intro gb185 hg w65 hbox hb; replace HO_6 := rB_ HO_6 hb; replace HO_184000 := Aside0.mk (Kd.S_below (Kd.S_elderB (sT_ HO_184000) gb185 (Nat.le_of_eq hg.symm)) hb); replace HO_184001 := rB_ HO_184001 hb; replace HO_184003 := rB_ HO_184003 hb; have BK185 := Aside0.mk (hbox); have GW185 := gE_ HB hg; have GE185 := gE_ HB hg; replace HB := bS_ HB hb; have NB167_185 := nL_ BK167 hg; have NB185_167 := nG_ BK167 hg; replace BK167 := bB_ BK167 hb; have NB168_185 := nL_ BK168 hg; have NB185_168 := nG_ BK168 hg; replace BK168 := bB_ BK168 hb; have NB183_185 := nL_ BK183 hg; have NB185_183 := nG_ BK183 hg; replace BK183 := bB_ BK183 hb; clear hb hbox hg; have hnb66 := NB185_167.out; have hnc66 := NB167_185.out; have hnb67 := NB185_168.out; have hnc67 := NB168_185.out; have hnb68 := NB185_183.out; have hnc68 := NB183_185.out; obtain ⟨hcz69_0, hcz69_1, hcz69_2, hcz69_3, hfz69_0, hfz69_1, hfz69_2, hfz69_3⟩ := cf4_ BK185; obtain ⟨hcz70_0, hcz70_1, hcz70_2, hcz70_3, hfz70_0, hfz70_1, hfz70_2, hfz70_3⟩ := cf4_ BK167; have p186 : 0 ≤ (x8_2 : Int) := of_decide_eq_true (by first | (with_reducible assumption) | assumption); have q186 : x8_2 < (l0_3.length : Int) := of_decide_eq_true (by first | (with_reducible assumption) | assumption); obtain ⟨ad186, e186, hx186_0, hx186_1⟩ := at_T43 HR0_3.out x8_2 p186 q186; cases e186; have hn186_0 : ad186.block ≠ gb185 := Nat.ne_of_lt (Nat.lt_of_lt_of_le (by have := World.block_lt_of_cell? _ _ hx186_0; first | rwa [add_block] at this | exact this) GW185.out); have hn186_1 : ad186.block ≠ gb185 := Nat.ne_of_lt (Nat.lt_of_lt_of_le (by have := World.block_lt_of_cell? _ _ hx186_0; first | rwa [add_block] at this | exact this) GW185.out); have hn186_2 : ad186.block ≠ gb185 := Nat.ne_of_lt (Nat.lt_of_lt_of_le (by have := World.block_lt_of_cell? _ _ hx186_0; first | rwa [add_block] at this | exact this) GW185.out); have hn186_3 : ad186.block ≠ gb185 := Nat.ne_of_lt (Nat.lt_of_lt_of_le (by have := World.block_lt_of_cell? _ _ hx186_0; first | rwa [add_block] at this | exact this) GW185.out); replace hx186_0 := (HB.out.cell (World.block_lt_of_cell? w _ hx186_0)).trans hx186_0; replace hx186_1 := (HB.out.cell (World.block_lt_of_cell? w _ hx186_1)).trans hx186_1; replace hx186_0 := (cell_far (p := ⟨gb185, 0, none⟩) (by first | (rw [add_block]; exact hn186_0) | (show (Addr.add _ _).block ≠ _; rw [add_block]; exact hn186_0) | exact hn186_0) (.slice A184_0 ((rd_T39 l0_0 x8_2).f0).length c184_0)).trans hx186_0; replace hx186_1 := (cell_far (p := ⟨gb185, 0, none⟩) (by first | (rw [add_block]; exact hn186_0) | (show (Addr.add _ _).block ≠ _; rw [add_block]; exact hn186_0) | exact hn186_0) (.slice A184_0 ((rd_T39 l0_0 x8_2).f0).length c184_0)).trans hx186_1; replace hx186_0 := (cell_far (p := ⟨gb185, 1, none⟩) (by first | (rw [add_block]; exact hn186_1) | (show (Addr.add _ _).block ≠ _; rw [add_block]; exact hn186_1) | exact hn186_1) (.int .i64 ((rd_T39 l0_0 x8_2).f1))).trans hx186_0; replace hx186_1 := (cell_far (p := ⟨gb185, 1, none⟩) (by first | (rw [add_block]; exact hn186_1) | (show (Addr.add _ _).block ≠ _; rw [add_block]; exact hn186_1) | exact hn186_1) (.int .i64 ((rd_T39 l0_0 x8_2).f1))).trans hx186_1; replace hx186_0 := (cell_far (p := ⟨gb185, 2, none⟩) (by first | (rw [add_block]; exact hn186_2) | (show (Addr.add _ _).block ≠ _; rw [add_block]; exact hn186_2) | exact hn186_2) (.int .i64 ((rd_T39 l0_0 x8_2).f2))).trans hx186_0; replace hx186_1 := (cell_far (p := ⟨gb185, 2, none⟩) (by first | (rw [add_block]; exact hn186_2) | (show (Addr.add _ _).block ≠ _; rw [add_block]; exact hn186_2) | exact hn186_2) (.int .i64 ((rd_T39 l0_0 x8_2).f2))).trans hx186_1; replace hx186_0 := (cell_far (p := ⟨gb185, 3, none⟩) (by first | (rw [add_block]; exact hn186_3) | (show (Addr.add _ _).block ≠ _; rw [add_block]; exact hn186_3) | exact hn186_3) (.int .i64 ((rd_T39 l0_0 x8_2).f3))).trans hx186_0; replace hx186_1 := (cell_far (p := ⟨gb185, 3, none⟩) (by first | (rw [add_block]; exact hn186_3) | (show (Addr.add _ _).block ≠ _; rw [add_block]; exact hn186_3) | exact hn186_3) (.int .i64 ((rd_T39 l0_0 x8_2).f3))).trans hx186_1; clear hn186_0; clear hn186_1; clear hn186_2; clear hn186_3; replace p186 := eq_true p186; replace q186 := eq_true q186; have hnb71 := NB183_168.out; have hnc71 := NB168_183.out; obtain ⟨hcz72_0, hcz72_1, hcz72_2, hcz72_3, hfz72_0, hfz72_1, hfz72_2, hfz72_3⟩ := cf4_ BK183))
           go_roundg k2
           case measure => have := HJ2.out; have := HK2.out; omega
           case rel => exact ⟨(x6_2), (wrap64 (x8_2 + 1)), (by first | rfl | (simp; done) | (simp [*]; done)), H', ⟨by have := HJ2.out; have := HK2.out; omega⟩, ⟨rFM_ HO_6 BK185⟩, ⟨sFN_ HO_184000⟩, ⟨rFM_ HO_184001 BK185⟩, ⟨rFM_ HO_184003 BK185⟩, ⟨bF_ BK167 NB167_185⟩, ⟨bF_ BK168 NB168_185⟩, ⟨bF_ BK183 NB183_185⟩, ⟨sABelo_6⟩⟩
         ·rw [if_neg c47] at H
          have c47b0 : decide (a0_2 ≤ ((rd_T39 l0_0 x8_2).f2)) = false := decide_eq_false c47
          clear c47; have H' := Aside0.mk H; clear H; have hnb73 := NB167_168.out; have hnc73 := NB168_167.out; have hnb74 := NB167_183.out; have hnc74 := NB183_167.out
          obtain ⟨hcz75_0, hcz75_1, hcz75_2, hcz75_3, hfz75_0, hfz75_1, hfz75_2, hfz75_3⟩ := cf4_ BK167
          have p184 : 0 ≤ (x8_2 : Int) := of_decide_eq_true (by first | (with_reducible assumption) | assumption)
          have q184 : x8_2 < (l0_0.length : Int) := of_decide_eq_true (by first | (with_reducible assumption) | assumption)
          obtain ⟨ad184, A184_0, c184_0, e184, hx184_0, hx184_1, hx184_2, hx184_3, hl184_0, hi184_0⟩ := at_T39 HR0_0.out x8_2 p184 q184
          cases e184
          replace hx184_0 := (HB.out.cell (World.block_lt_of_cell? w _ hx184_0)).trans hx184_0
          replace hx184_1 := (HB.out.cell (World.block_lt_of_cell? w _ hx184_1)).trans hx184_1
          replace hx184_2 := (HB.out.cell (World.block_lt_of_cell? w _ hx184_2)).trans hx184_2
          replace hx184_3 := (HB.out.cell (World.block_lt_of_cell? w _ hx184_3)).trans hx184_3
          have HR184_0 := Aside0.mk hi184_0; have HC184_0 := Aside0.mk hl184_0; clear hi184_0 hl184_0; replace p184 := eq_true p184; replace q184 := eq_true q184
          go_wp2_with (first | ((with_reducible refine gate_dst (N := 9) rfl ?_); refine box_event ?hg (N := 9) ?hd (cs := #[.slice none 0 0, .int .i64 0, .int .i64 0, .int .i64 0]) (t := 39) ?hr ?_; (case hd => rfl); (case hg => rfl); (case hr => first | (go_simp; done) | (go_simp; rfl)); intro gb185 hg w76 hbox hb; replace HO_6 := rB_ HO_6 hb; replace HO_184000 := Aside0.mk (Kd.S_below (Kd.S_elderB (sT_ HO_184000) gb185 (Nat.le_of_eq hg.symm)) hb); replace HO_184001 := rB_ HO_184001 hb; replace HO_184003 := rB_ HO_184003 hb; have BK185 := Aside0.mk (hbox); have GW185 := gE_ HB hg; have GE185 := gE_ HB hg; replace HB := bS_ HB hb; have NB167_185 := nL_ BK167 hg; have NB185_167 := nG_ BK167 hg; replace BK167 := bB_ BK167 hb; have NB168_185 := nL_ BK168 hg; have NB185_168 := nG_ BK168 hg; replace BK168 := bB_ BK168 hb; have NB183_185 := nL_ BK183 hg; have NB185_183 := nG_ BK183 hg; replace BK183 := bB_ BK183 hb; clear hb hbox hg; have hnb77 := NB185_167.out; have hnc77 := NB167_185.out; have hnb78 := NB185_168.out; have hnc78 := NB168_185.out; have hnb79 := NB185_183.out; have hnc79 := NB183_185.out; obtain ⟨hcz80_0, hcz80_1, hcz80_2, hcz80_3, hfz80_0, hfz80_1, hfz80_2, hfz80_3⟩ := cf4_ BK185; obtain ⟨hcz81_0, hcz81_1, hcz81_2, hcz81_3, hfz81_0, hfz81_1, hfz81_2, hfz81_3⟩ := cf4_ BK167; have p186 : 0 ≤ (x8_2 : Int) := of_decide_eq_true (by first | (with_reducible assumption) | assumption); have q186 : x8_2 < (l0_3.length : Int) := of_decide_eq_true (by first | (with_reducible assumption) | assumption); obtain ⟨ad186, e186, hx186_0, hx186_1⟩ := at_T43 HR0_3.out x8_2 p186 q186; cases e186; have hn186_0 : ad186.block ≠ gb185 := Nat.ne_of_lt (Nat.lt_of_lt_of_le (by have := World.block_lt_of_cell? _ _ hx186_0; first | rwa [add_block] at this | exact this) GW185.out); have hn186_1 : ad186.block ≠ gb185 := Nat.ne_of_lt (Nat.lt_of_lt_of_le (by have := World.block_lt_of_cell? _ _ hx186_0; first | rwa [add_block] at this | exact this) GW185.out); have hn186_2 : ad186.block ≠ gb185 := Nat.ne_of_lt (Nat.lt_of_lt_of_le (by have := World.block_lt_of_cell? _ _ hx186_0; first | rwa [add_block] at this | exact this) GW185.out); have hn186_3 : ad186.block ≠ gb185 := Nat.ne_of_lt (Nat.lt_of_lt_of_le (by have := World.block_lt_of_cell? _ _ hx186_0; first | rwa [add_block] at this | exact this) GW185.out); replace hx186_0 := (HB.out.cell (World.block_lt_of_cell? w _ hx186_0)).trans hx186_0; replace hx186_1 := (HB.out.cell (World.block_lt_of_cell? w _ hx186_1)).trans hx186_1; replace hx186_0 := (cell_far (p := ⟨gb185, 0, none⟩) (by first | (rw [add_block]; exact hn186_0) | (show (Addr.add _ _).block ≠ _; rw [add_block]; exact hn186_0) | exact hn186_0) (.slice A184_0 ((rd_T39 l0_0 x8_2).f0).length c184_0)).trans hx186_0; replace hx186_1 := (cell_far (p := ⟨gb185, 0, none⟩) (by first | (rw [add_block]; exact hn186_0) | (show (Addr.add _ _).block ≠ _; rw [add_block]; exact hn186_0) | exact hn186_0) (.slice A184_0 ((rd_T39 l0_0 x8_2).f0).length c184_0)).trans hx186_1; replace hx186_0 := (cell_far (p := ⟨gb185, 1, none⟩) (by first | (rw [add_block]; exact hn186_1) | (show (Addr.add _ _).block ≠ _; rw [add_block]; exact hn186_1) | exact hn186_1) (.int .i64 ((rd_T39 l0_0 x8_2).f1))).trans hx186_0; replace hx186_1 := (cell_far (p := ⟨gb185, 1, none⟩) (by first | (rw [add_block]; exact hn186_1) | (show (Addr.add _ _).block ≠ _; rw [add_block]; exact hn186_1) | exact hn186_1) (.int .i64 ((rd_T39 l0_0 x8_2).f1))).trans hx186_1; replace hx186_0 := (cell_far (p := ⟨gb185, 2, none⟩) (by first | (rw [add_block]; exact hn186_2) | (show (Addr.add _ _).block ≠ _; rw [add_block]; exact hn186_2) | exact hn186_2) (.int .i64 ((rd_T39 l0_0 x8_2).f2))).trans hx186_0; replace hx186_1 := (cell_far (p := ⟨gb185, 2, none⟩) (by first | (rw [add_block]; exact hn186_2) | (show (Addr.add _ _).block ≠ _; rw [add_block]; exact hn186_2) | exact hn186_2) (.int .i64 ((rd_T39 l0_0 x8_2).f2))).trans hx186_1; replace hx186_0 := (cell_far (p := ⟨gb185, 3, none⟩) (by first | (rw [add_block]; exact hn186_3) | (show (Addr.add _ _).block ≠ _; rw [add_block]; exact hn186_3) | exact hn186_3) (.int .i64 ((rd_T39 l0_0 x8_2).f3))).trans hx186_0; replace hx186_1 := (cell_far (p := ⟨gb185, 3, none⟩) (by first | (rw [add_block]; exact hn186_3) | (show (Addr.add _ _).block ≠ _; rw [add_block]; exact hn186_3) | exact hn186_3) (.int .i64 ((rd_T39 l0_0 x8_2).f3))).trans hx186_1; clear hn186_0; clear hn186_1; clear hn186_2; clear hn186_3; replace p186 := eq_true p186; replace q186 := eq_true q186))
          go_roundg k2
          case measure => have := HJ2.out; have := HK2.out; omega
          case rel => exact ⟨(x6_2), (wrap64 (x8_2 + 1)), (by first | rfl | (simp; done) | (simp [*]; done)), H', ⟨by have := HJ2.out; have := HK2.out; omega⟩, ⟨rFM_ HO_6 BK185⟩, ⟨sFN_ HO_184000⟩, ⟨rFM_ HO_184001 BK185⟩, ⟨rFM_ HO_184003 BK185⟩, ⟨bF_ BK167 NB167_185⟩, ⟨bF_ BK168 NB168_185⟩, ⟨bF_ BK183 NB183_185⟩, ⟨sABelo_6⟩⟩
       ·rw [if_neg c36] at H
        have c36b0 : decide (0 < ((rd_T39 l0_0 x8_2).f2)) = false := decide_eq_false c36
        clear c36; have H' := Aside0.mk H; clear H; have hnb82 := NB167_168.out; have hnc82 := NB168_167.out; have hnb83 := NB167_183.out; have hnc83 := NB183_167.out
        obtain ⟨hcz84_0, hcz84_1, hcz84_2, hcz84_3, hfz84_0, hfz84_1, hfz84_2, hfz84_3⟩ := cf4_ BK167
        have p184 : 0 ≤ (x8_2 : Int) := of_decide_eq_true (by first | (with_reducible assumption) | assumption)
        have q184 : x8_2 < (l0_0.length : Int) := of_decide_eq_true (by first | (with_reducible assumption) | assumption)
        obtain ⟨ad184, A184_0, c184_0, e184, hx184_0, hx184_1, hx184_2, hx184_3, hl184_0, hi184_0⟩ := at_T39 HR0_0.out x8_2 p184 q184
        cases e184
        replace hx184_0 := (HB.out.cell (World.block_lt_of_cell? w _ hx184_0)).trans hx184_0
        replace hx184_1 := (HB.out.cell (World.block_lt_of_cell? w _ hx184_1)).trans hx184_1
        replace hx184_2 := (HB.out.cell (World.block_lt_of_cell? w _ hx184_2)).trans hx184_2
        replace hx184_3 := (HB.out.cell (World.block_lt_of_cell? w _ hx184_3)).trans hx184_3
        have HR184_0 := Aside0.mk hi184_0; have HC184_0 := Aside0.mk hl184_0; clear hi184_0 hl184_0; replace p184 := eq_true p184; replace q184 := eq_true q184
        go_wp2_with (first | ((with_reducible refine gate_dst (N := 9) rfl ?_); refine box_event ?hg (N := 9) ?hd (cs := #[.slice none 0 0, .int .i64 0, .int .i64 0, .int .i64 0]) (t := 39) ?hr ?_; (case hd => rfl); (case hg => rfl); (case hr => first | (go_simp; done) | (go_simp; rfl)); intro gb185 hg w85 hbox hb; replace HO_6 := rB_ HO_6 hb; replace HO_184000 := Aside0.mk (Kd.S_below (Kd.S_elderB (sT_ HO_184000) gb185 (Nat.le_of_eq hg.symm)) hb); replace HO_184001 := rB_ HO_184001 hb; replace HO_184003 := rB_ HO_184003 hb; have BK185 := Aside0.mk (hbox); have GW185 := gE_ HB hg; have GE185 := gE_ HB hg; replace HB := bS_ HB hb; have NB167_185 := nL_ BK167 hg; have NB185_167 := nG_ BK167 hg; replace BK167 := bB_ BK167 hb; have NB168_185 := nL_ BK168 hg; have NB185_168 := nG_ BK168 hg; replace BK168 := bB_ BK168 hb; have NB183_185 := nL_ BK183 hg; have NB185_183 := nG_ BK183 hg; replace BK183 := bB_ BK183 hb; clear hb hbox hg; have hnb86 := NB185_167.out; have hnc86 := NB167_185.out; have hnb87 := NB185_168.out; have hnc87 := NB168_185.out; have hnb88 := NB185_183.out; have hnc88 := NB183_185.out; obtain ⟨hcz89_0, hcz89_1, hcz89_2, hcz89_3, hfz89_0, hfz89_1, hfz89_2, hfz89_3⟩ := cf4_ BK185))
        go_roundg k2
        case measure => have := HJ2.out; have := HK2.out; omega
        case rel => exact ⟨(x6_2), (wrap64 (x8_2 + 1)), (by first | rfl | (simp; done) | (simp [*]; done)), H', ⟨by have := HJ2.out; have := HK2.out; omega⟩, ⟨rFM_ HO_6 BK185⟩, ⟨sFN_ HO_184000⟩, ⟨rFM_ HO_184001 BK185⟩, ⟨rFM_ HO_184003 BK185⟩, ⟨bF_ BK167 NB167_185⟩, ⟨bF_ BK168 NB168_185⟩, ⟨bF_ BK183 NB183_185⟩, ⟨sABelo_6⟩⟩
      ·rw [if_neg c33] at H
       have c33b0 : decide (x8_2 < (l0_3.length : Int)) = false := decide_eq_false c33
       clear c33
       simp only [Option.some.injEq, Prod.mk.injEq] at H
       obtain ⟨rfl, rfl, rfl, rfl, rfl⟩ := H
       have hnb90 := NB167_168.out; have hnc90 := NB168_167.out; have hnb91 := NB167_183.out; have hnc91 := NB183_167.out
       obtain ⟨hcz92_0, hcz92_1, hcz92_2, hcz92_3, hfz92_0, hfz92_1, hfz92_2, hfz92_3⟩ := cf4_ BK167; have hnb93 := NB183_168.out; have hnc93 := NB168_183.out
       obtain ⟨hcz94_0, hcz94_1, hcz94_2, hcz94_3, hfz94_0, hfz94_1, hfz94_2, hfz94_3⟩ := cf4_ BK183
       obtain ⟨hcz95_0, hcz95_1, hcz95_2, hcz95_3, hfz95_0, hfz95_1, hfz95_2, hfz95_3⟩ := cf4_ BK168
       go_wp2
       refine bodyPost_ret (results_ct rfl _ _ gb168 31 #[.slice Ao26 t173.length co26, .slice Ao30 t176.length co30, .int .i64 ji21, .slice Ao31 t180.length co31] (0, 0) _ rfl (bP_ BK168) Try.underlying31 rfl (by kernel_rfl)) rfl ?_
       exact ⟨_, _, _, _, by first | rfl | (simp [errW_none, errW_some] <;> rfl) | (simp only [← hji20, ← hji21]; first | rfl | (simp [errW_none, errW_some] <;> rfl)) | (simp [*, errW_none, errW_some] <;> rfl), by (with_reducible repeat (first | apply Kd.S_alloc | apply Kd.S_drewN | apply Kd.S_drew)); exact Kd.S_mono (Kd.S_far (p := ⟨gb168, 3, none⟩) (Kd.S_far (p := ⟨gb168, 2, none⟩) (Kd.S_far (p := ⟨gb168, 1, none⟩) (Kd.S_far (p := ⟨gb168, 0, none⟩) (Kd.S_types HO_184000.out BK168.out (by decide)) (fun _ hk => hk.2) (.slice Ao26 t173.length co26)) (fun _ hk => hk.2) (.slice Ao30 t176.length co30)) (fun _ hk => hk.2) (.int .i64 ji21)) (fun _ hk => hk.2) (.slice Ao31 t180.length co31)) (fun _ hk => ⟨hk.1.2, hk.1.1⟩), by (with_reducible repeat (first | apply Kd.R_alloc | apply Kd.R_drewN | apply Kd.R_drew)); exact Kd.R_mono (Kd.R_far (p := ⟨gb168, 3, none⟩) (Kd.R_far (p := ⟨gb168, 2, none⟩) (Kd.R_far (p := ⟨gb168, 1, none⟩) (Kd.R_far (p := ⟨gb168, 0, none⟩) (Kd.R_types HO_184001.out BK168.out (by decide)) (fun _ hk => hk.2) (.slice Ao26 t173.length co26)) (fun _ hk => hk.2) (.slice Ao30 t176.length co30)) (fun _ hk => hk.2) (.int .i64 ji21)) (fun _ hk => hk.2) (.slice Ao31 t180.length co31)) (fun _ hk => hk.1), by (with_reducible repeat (first | apply Kd.R_alloc | apply Kd.R_drewN | apply Kd.R_drew)); exact Kd.R_mono (Kd.R_far (p := ⟨gb168, 3, none⟩) (Kd.R_far (p := ⟨gb168, 2, none⟩) (Kd.R_far (p := ⟨gb168, 1, none⟩) (Kd.R_far (p := ⟨gb168, 0, none⟩) (Kd.R_types HO_184003.out BK168.out (by decide)) (fun _ hk => hk.2) (.slice Ao26 t173.length co26)) (fun _ hk => hk.2) (.slice Ao30 t176.length co30)) (fun _ hk => hk.2) (.int .i64 ji21)) (fun _ hk => hk.2) (.slice Ao31 t180.length co31)) (fun _ hk => trivial), by (with_reducible repeat (first | apply Kd.R_alloc | apply Kd.R_drewN | apply Kd.R_drew)); exact Kd.R_mono (Kd.R_far (p := ⟨gb168, 3, none⟩) (Kd.R_far (p := ⟨gb168, 2, none⟩) (Kd.R_far (p := ⟨gb168, 1, none⟩) (Kd.R_far (p := ⟨gb168, 0, none⟩) (Kd.R_types HO_6.out BK168.out (by decide)) (fun _ hk => hk.2) (.slice Ao26 t173.length co26)) (fun _ hk => hk.2) (.slice Ao30 t176.length co30)) (fun _ hk => hk.2) (.int .i64 ji21)) (fun _ hk => hk.2) (.slice Ao31 t180.length co31)) (fun _ hk => hk.1), sABelo_6⟩

/-! ### impl_in: function 52 -/
def impl_in.f (a0 : Int) (a1 : Int) (a2 : Int) : Option (Bool) := if a0 ≥ a1 then (some (decide (a0 ≤ a2))) else (some false)
set_option maxHeartbeats 8000000 in
set_option maxRecDepth 100000 in
theorem impl_in.calls (a0 : Int) (a1 : Int) (a2 : Int) (r : Bool) (w : World) (h : impl_in.f a0 a1 a2 = some r) :
  Calls Try.prog 52 #[.int .i64 a0, .int .i64 a1, .int .i64 a2] w fun e w' => e = .returned (.bool r) ∧ Drawn0 w w' := by
 have H : (if a0 ≥ a1 then (some (decide (a0 ≤ a2))) else (some false)) = some r := h
 clear h
 by_cases c4 : a0 ≥ a1
 ·rw [if_pos c4] at H
  have c4b0 : decide (a1 ≤ a0) = true := decide_eq_true c4
  clear c4
  obtain rfl := Option.some.inj H
  go_enter Try.func52, Try.ntmps52
  go_wp2
  go_ret
  exact ⟨by first | rfl | (simp; done) | (simp [*]; done), by repeat (first | exact Drawn0.refl _ | apply Drawn0.step)⟩
 ·rw [if_neg c4] at H
  have c4b0 : decide (a1 ≤ a0) = false := decide_eq_false c4
  clear c4
  obtain rfl := Option.some.inj H
  go_enter Try.func52, Try.ntmps52
  go_wp2
  go_ret
  exact ⟨by first | rfl | (simp; done) | (simp [*]; done), by repeat (first | exact Drawn0.refl _ | apply Drawn0.step)⟩

/-! ### impl_each: function 78 -/
def impl_each.l0 : Nat → Int → Int → List Int → Int → Int → Option (Bool)
 | 0, _, _, _, _, _ => none
 | k + 1, x2, x3, x15, x16, x17 => if x17 < x16 then (if 0 ≤ x17 then (if x17 < (x15.length : Int) then ((impl_in.f (rd x15 x17) x2 x3).bind fun t191 => (if t191 = true then (impl_each.l0 k x2 x3 x15 x16 (wrap64 (x17 + 1))) else (some false))) else (none)) else (none)) else (some true)
def impl_each.f (k : Nat) (l0 : List Int) (a1 : Int) (a2 : Int) (a3 : Int) : Option (Bool) := if (l0.length : Int) = a1 then (impl_each.l0 k a2 a3 l0 (l0.length : Int) 0) else (some false)
theorem impl_each.mono_l : ∀ k, (∀ y0 y1 y2 y3 y4, LeO (impl_each.l0 k y0 y1 y2 y3 y4) (impl_each.l0 (k + 1) y0 y1 y2 y3 y4))
 | 0 => fun _ _ _ _ _ r h => by simp [impl_each.l0] at h
 | k + 1 => by
  have ih0 := impl_each.mono_l k
  ·intro y0 y1 y2 y3 y4
   unfold impl_each.l0
   repeat' first
   | (with_reducible exact ih0 _ _ _ _ _)
   | (with_reducible exact LeO.refl _)
   | (with_reducible exact LeO.none _)
   | (with_reducible refine LeO.ite ?_ ?_)
   | (with_reducible refine LeO.bind ?_ (fun _ => ?_))
   | exact ih0 _ _ _ _ _
   | exact LeO.none _
   | refine LeO.ite ?_ ?_
   | refine LeO.bind ?_ (fun _ => ?_)
theorem impl_each.mono : ∀ a0 a1 a2 a3 k, LeO (impl_each.f k a0 a1 a2 a3) (impl_each.f (k + 1) a0 a1 a2 a3) := by
 intro a0 a1 a2 a3 k
 have ih0 := impl_each.mono_l k
 unfold impl_each.f
 repeat' first
   | (with_reducible exact ih0 _ _ _ _ _)
   | (with_reducible exact LeO.refl _)
   | (with_reducible exact LeO.none _)
   | (with_reducible refine LeO.ite ?_ ?_)
   | (with_reducible refine LeO.bind ?_ (fun _ => ?_))
   | exact ih0 _ _ _ _ _
   | exact LeO.none _
   | refine LeO.ite ?_ ?_
   | refine LeO.bind ?_ (fun _ => ?_)
set_option maxHeartbeats 8000000 in
set_option maxRecDepth 100000 in
theorem impl_each.calls (k : Nat) (A0 : Option Addr) (c0 : Nat) (l0 : List Int) (a1 : Int) (a2 : Int) (a3 : Int) (r : Bool) (w : World) (hr0 : Kd.C (Kd.int .i64) w A0 l0.length l0) (hc0 : l0.length ≤ c0) (h : impl_each.f k l0 a1 a2 a3 = some r) :
  Calls Try.prog 78 #[.slice A0 l0.length c0, .int .i64 a1, .int .i64 a2, .int .i64 a3] w fun e w' => e = .returned (.bool r) ∧ Drawn0 w w' := by
 have HR0 := Aside0.mk hr0; have HC0 := Aside0.mk hc0; clear hr0 hc0
 have H : (if (l0.length : Int) = a1 then (impl_each.l0 k a2 a3 l0 (l0.length : Int) 0) else (some false)) = some r := h
 clear h
 by_cases c5 : (l0.length : Int) = a1
 ·rw [if_pos c5] at H
  have c5b0 : ((l0.length : Int) == a1) = true := beq_iff_eq.mpr c5
  have c5b1 : ((l0.length : Int) != a1) = false := bne_eq_false_iff_eq.mpr c5
  clear c5; have H' := Aside0.mk H; clear H
  go_enter Try.func78, Try.ntmps78
  go_wp2
  go_loopg [17] k (fun kq v17 w' => ∃ (x17_1 : Int), v17 = .int .i64 x17_1 ∧ Aside0 (impl_each.l0 kq a2 a3 l0 (l0.length : Int) x17_1 = some r) ∧ Aside0 (kq ≤ k) ∧ Drawn0 w w')
  case atStart => exact ⟨(0), (by first | rfl | (simp; done) | (simp [*]; done)), H', ⟨Nat.le_refl _⟩, by repeat (first | exact Drawn0.refl _ | apply Drawn0.step)⟩
  case round =>
   clear H'; (try clear c5); (try clear c5b0); (try clear c5b1)
   obtain ⟨x17_1, rfl, HA, HK1, ⟨m1, rfl⟩⟩ := hrel
   cases gk with
   | zero => exact absurd HA.out (by simp [impl_each.l0])
   | succ k1 =>
    have H := HA.out; clear HA
    simp only [impl_each.l0] at H
    by_cases c6 : x17_1 < (l0.length : Int)
    ·rw [if_pos c6] at H
     have c6b0 : decide (x17_1 < (l0.length : Int)) = true := decide_eq_true c6
     clear c6
     obtain ⟨c7, H⟩ := ifS_ H
     have c7b0 : decide (0 ≤ x17_1) = true := decide_eq_true c7
     clear c7
     obtain ⟨c8, H⟩ := ifS_ H
     have c8b0 : decide (x17_1 < (l0.length : Int)) = true := decide_eq_true c8
     clear c8; replace H := Option.bind_eq_some_iff.mp H
     obtain ⟨t191, A90, H⟩ := H
     replace H : (if t191 = true then (impl_each.l0 k1 a2 a3 l0 (l0.length : Int) (wrap64 (x17_1 + 1))) else (some false)) = some r := H
     have A9 := Aside0.mk A90; clear A90
     by_cases c10 : t191 = true
     ·subst c10
      replace H := ifT_ H; have H' := Aside0.mk H; clear H
      have p190 : 0 ≤ (x17_1 : Int) := of_decide_eq_true (by first | (with_reducible assumption) | assumption)
      have q190 : x17_1 < (l0.length : Int) := of_decide_eq_true (by first | (with_reducible assumption) | assumption)
      obtain ⟨ad190, e190, hx190_0⟩ := Kd.at_int HR0.out x17_1 p190 q190
      cases e190
      replace p190 := eq_true p190; replace q190 := eq_true q190
      go_wp2_with (first | ((with_reducible refine gate_callee (f := 52) rfl ?_); refine gL_ (some 24) Try.func52 #[.int .i64 (rd l0 x17_1), .int .i64 a2, .int .i64 a3] ?_; (with_reducible refine (impl_in.calls (rd l0 x17_1) a2 a3 true _ A9.out).mono ?_); rintro e w' ⟨rfl, ⟨nd, rfl⟩⟩; refine ⟨_, rfl, ?_⟩))
      go_roundg k1
      case measure => have := HK1.out; omega
      case rel => exact ⟨(wrap64 (x17_1 + 1)), (by first | rfl | (simp; done) | (simp [*]; done)), H', ⟨by have := HK1.out; omega⟩, by repeat (first | exact Drawn0.refl _ | apply Drawn0.step)⟩
     ·replace c10 := Bool.eq_false_iff.mpr c10
      subst c10
      replace H := ifF_ H
      obtain rfl := Option.some.inj H
      have p190 : 0 ≤ (x17_1 : Int) := of_decide_eq_true (by first | (with_reducible assumption) | assumption)
      have q190 : x17_1 < (l0.length : Int) := of_decide_eq_true (by first | (with_reducible assumption) | assumption)
      obtain ⟨ad190, e190, hx190_0⟩ := Kd.at_int HR0.out x17_1 p190 q190
      cases e190
      replace p190 := eq_true p190; replace q190 := eq_true q190
      go_wp2_with (first | ((with_reducible refine gate_callee (f := 52) rfl ?_); refine gL_ (some 24) Try.func52 #[.int .i64 (rd l0 x17_1), .int .i64 a2, .int .i64 a3] ?_; (with_reducible refine (impl_in.calls (rd l0 x17_1) a2 a3 false _ A9.out).mono ?_); rintro e w' ⟨rfl, ⟨nd, rfl⟩⟩; refine ⟨_, rfl, ?_⟩))
      go_ret
      exact ⟨by first | rfl | (simp; done) | (simp [*]; done), by repeat (first | exact Drawn0.refl _ | apply Drawn0.step)⟩
    ·rw [if_neg c6] at H
     have c6b0 : decide (x17_1 < (l0.length : Int)) = false := decide_eq_false c6
     clear c6
     obtain rfl := Option.some.inj H
     go_wp2
     go_ret
     exact ⟨by first | rfl | (simp; done) | (simp [*]; done), by repeat (first | exact Drawn0.refl _ | apply Drawn0.step)⟩
 ·rw [if_neg c5] at H
  have c5b0 : ((l0.length : Int) == a1) = false := beq_eq_false_iff_ne.mpr c5
  have c5b1 : ((l0.length : Int) != a1) = true := bne_iff_ne.mpr c5
  obtain rfl := Option.some.inj H
  go_enter Try.func78, Try.ntmps78
  go_wp2
  go_ret
  exact ⟨by first | rfl | (simp; done) | (simp [*]; done), by repeat (first | exact Drawn0.refl _ | apply Drawn0.step)⟩

end Go.Proofs.Ytjoghfehmhapbaa.QFnExactTickRun
