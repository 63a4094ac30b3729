-- Written by a program of this session out of the printer's texts and contracts of its own.
import Derived.Test.YtjoghfehmhapbaaSq
import Derived.Test.YtjoghfehmhapbaaQFnExactCrashRunx0
import Derived.Test.YtjoghfehmhapbaaQFnExactCrashRunx6
namespace Go.Proofs.Ytjoghfehmhapbaa.QFnExactCrashRun
open Go.RowKit Go.Proofs.YtjoghfehmhapbaaW.PrintWords Go.Proofs.YtjoghfehmhapbaaW.PrintLast Go.Proofs.YtjoghfehmhapbaaW.PrintMore Go.Proofs.Ytjoghfehmhapbaa.Sq
attribute [local go_sem] max2_int min2_int max_two min_two max_three min_three max_four min_four   -- for this text's walks alone
set_option linter.unusedVariables false
set_option linter.unusedSimpArgs false
theorem sABelo_7 {b : Nat} {w W : World} (h : Below b w W := by repeat (first | (with_reducible first | exact Aside0.out (by assumption) | apply below_alloc | apply pw_below_drewN | apply below_drew1 | refine below_set ?_ (Aside0.out (by assumption))) | exact Aside0.out (by assumption))) : Below b w W := h

/-! ### impl_copySuite: function 47 -/
def impl_copySuite.l0 : Nat → List (S39) → Int → Int → List (S39) → List Int → Option ((List (S39)) × List Int)
 | 0, _, _, _, _, _ => none
 | k + 1, x11, x12, x13, x167000, x167001 => if x13 < x12 then (if 0 ≤ x13 then (if x13 < (x11.length : Int) then ((slices_Clone_int64_int64.f ((rd_T39 x11 x13).f0)).bind fun t169 => (if x167000.length < 2932031007402 then (impl_copySuite.l0 k x11 x12 (wrap64 (x13 + 1)) (x167000 ++ [(⟨t169, (rd_T39 x11 x13).f1, (rd_T39 x11 x13).f2, (rd_T39 x11 x13).f3⟩ : S39)]) x167001) else (none))) else (none)) else (none)) else (some (x167000, x167001))
def impl_copySuite.f (k : Nat) (l0_0 : List (S39)) (l0_1 : List Int) : Option ((List (S39)) × List Int) := (slices_Clone_int64_int64.f l0_1).bind fun t163 => (impl_copySuite.l0 k l0_0 (l0_0.length : Int) 0 ([] : List (S39)) t163)
theorem impl_copySuite.mono_l : ∀ k, (∀ y0 y1 y2 y3 y4, LeO (impl_copySuite.l0 k y0 y1 y2 y3 y4) (impl_copySuite.l0 (k + 1) y0 y1 y2 y3 y4))
 | 0 => fun _ _ _ _ _ r h => by simp [impl_copySuite.l0] at h
 | k + 1 => by
  have ih0 := impl_copySuite.mono_l k
  ·intro y0 y1 y2 y3 y4
   unfold impl_copySuite.l0
   repeat' first
   | (with_reducible exact ih0 _ _ _ _ _)
   | (with_reducible exact LeO.refl _)
   | (with_reducible exact LeO.none _)
   | (with_reducible refine LeO.ite ?_ ?_)
   | (with_reducible refine LeO.bind ?_ (fun _ => ?_))
   | exact ih0 _ _ _ _ _
   | exact LeO.none _
   | refine LeO.ite ?_ ?_
   | refine LeO.bind ?_ (fun _ => ?_)
theorem impl_copySuite.mono : ∀ a0 a1 k, LeO (impl_copySuite.f k a0 a1) (impl_copySuite.f (k + 1) a0 a1) := by
 intro a0 a1 k
 have ih0 := impl_copySuite.mono_l k
 unfold impl_copySuite.f
 repeat' first
   | (with_reducible exact ih0 _ _ _ _ _)
   | (with_reducible exact LeO.refl _)
   | (with_reducible exact LeO.none _)
   | (with_reducible refine LeO.ite ?_ ?_)
   | (with_reducible refine LeO.bind ?_ (fun _ => ?_))
   | exact ih0 _ _ _ _ _
   | exact LeO.none _
   | refine LeO.ite ?_ ?_
   | refine LeO.bind ?_ (fun _ => ?_)
set_option maxHeartbeats 8000000 in
set_option maxRecDepth 100000 in
theorem impl_copySuite.calls (k : Nat) (A0_0 : Option Addr) (c0_0 : Nat) (l0_0 : List (S39)) (A0_1 : Option Addr) (c0_1 : Nat) (l0_1 : List Int) (r1 : List (S39)) (r2 : List Int) (w : World) (hr0_0 : Kd.C k39 w A0_0 l0_0.length l0_0) (hc0_0 : l0_0.length ≤ c0_0) (hr0_1 : Kd.C (Kd.int .i64) w A0_1 l0_1.length l0_1) (hc0_1 : l0_1.length ≤ c0_1) (h : impl_copySuite.f k l0_0 l0_1 = some (r1, r2)) :
  Calls Try.prog 47 #[.agg #[.slice A0_0 l0_0.length c0_0, .slice A0_1 l0_1.length c0_1]] w fun e w' => ∃ v0_ v1_ : Value, e = .returned (.agg #[v0_, v1_]) ∧ Kd.S k39 39 w' w.heap.size (fun k_ => some k_ ≠ (v1_ : Value).ownBlock) v0_ r1 ∧ Kd.R (Kd.int .i64) 2 w' w.heap.size (fun _ => True) v1_ r2 ∧ Below w.heap.size w w' := by
 have hu27 := Try.underlying27; have hu39 := Try.underlying39; have HR0_0 := Aside0.mk hr0_0; have HC0_0 := Aside0.mk hc0_0; clear hr0_0 hc0_0; have HR0_1 := Aside0.mk hr0_1; have HC0_1 := Aside0.mk hc0_1; clear hr0_1 hc0_1
 have HB := Aside0.mk (Below.refl w.heap.size w)
 have H : ((slices_Clone_int64_int64.f l0_1).bind fun t163 => (impl_copySuite.l0 k l0_0 (l0_0.length : Int) 0 ([] : List (S39)) t163)) = some (r1, r2) := h
 clear h; replace H := Option.bind_eq_some_iff.mp H
 obtain ⟨t163, A20, H⟩ := H
 replace H : (impl_copySuite.l0 k l0_0 (l0_0.length : Int) 0 ([] : List (S39)) t163) = some (r1, r2) := H
 have A2 := Aside0.mk A20; clear A20; have H' := Aside0.mk H; clear H
 go_enter Try.func47, Try.ntmps47
 go_wp2_with (first | ((with_reducible refine gate_dst (N := 1) rfl ?_); refine box_event ?hg (N := 1) ?hd (cs := #[.slice A0_0 l0_0.length c0_0, .slice A0_1 l0_1.length c0_1]) (t := 27) ?hr ?_; (case hd => rfl); (case hg => rfl); (case hr => first | (go_simp; done) | (go_simp; rfl)); intro gb161 hg w3 hbox hb; have BK161 := Aside0.mk (hbox); have GW161 := gE_ HB hg; have GE161 := gE_ HB hg; replace HB := bS_ HB hb; clear hb hbox hg) | ((with_reducible refine gate_dst (N := 2) rfl ?_); refine box_event ?hg (N := 2) ?hd (cs := #[.slice none 0 0, .slice none 0 0]) (t := 27) ?hr ?_; (case hd => rfl); (case hg => rfl); (case hr => first | (go_simp; done) | (go_simp; rfl)); intro gb162 hg w4 hbox hb; have BK162 := Aside0.mk (hbox); have GW162 := gE_ HB hg; have GE162 := gE_ HB hg; replace HB := bS_ HB hb; have NB161_162 := nL_ BK161 hg; have NB162_161 := nG_ BK161 hg; replace BK161 := bB_ BK161 hb; clear hb hbox hg; have hnb5 := NB161_162.out; have hnc5 := NB162_161.out; have hcz6_0 : w4.cell? ⟨gb161, 0, none⟩ = some (.slice A0_0 l0_0.length c0_0) := (blk_cell BK161.out 0).trans rfl; have hcz6_1 : w4.cell? ⟨gb161, 1, none⟩ = some (.slice A0_1 l0_1.length c0_1) := (blk_cell BK161.out 1).trans rfl; have hfz6_0 := blk_frozen BK161.out 0; have hfz6_1 := blk_frozen BK161.out 1) | ((with_reducible refine gate_callee (f := 79) rfl ?_); refine gL_ (some 8) Try.func79 #[.slice A0_1 l0_1.length c0_1] ?_; (with_reducible refine (slices_Clone_int64_int64.calls _ _ l0_1 t163 _ ?side1 ?side2 A2.out).mono ?_); (case side1 => exact cB_ HR0_1 HB); (case side2 => exact HC0_1.out); rintro e w7 ⟨v164, rfl, ho0, hb⟩; refine ⟨_, rfl, ?_⟩; have HO165 := rL_ ho0 HB; replace BK161 := bB_ BK161 hb; replace BK162 := bB_ BK162 hb; replace HB := bS_ HB hb; (try clear hb); (try clear hb2); (try clear hk); (try clear hi); (try clear ho0); obtain ⟨Ao8, co8, eo8⟩ := Kd.R_slice HO165.out; subst eo8) | ((with_reducible refine gate_dst (N := 3) rfl ?_); refine box_event ?hg (N := 3) ?hd (cs := #[.slice none 0 0, .slice none 0 0]) (t := 27) ?hr ?_; (case hd => rfl); (case hg => rfl); (case hr => first | (go_simp; done) | (go_simp; rfl)); intro gb166 hg w9 hbox hb; replace HO165 := rB_ HO165 hb; have BK166 := Aside0.mk (hbox); have GW166 := gE_ HB hg; have GE166 := gE_ HB hg; replace HB := bS_ HB hb; have NB161_166 := nL_ BK161 hg; have NB166_161 := nG_ BK161 hg; replace BK161 := bB_ BK161 hb; have NB162_166 := nL_ BK162 hg; have NB166_162 := nG_ BK162 hg; replace BK162 := bB_ BK162 hb; clear hb hbox hg; have hnb10 := NB166_161.out; have hnc10 := NB161_166.out; have hnb11 := NB166_162.out; have hnc11 := NB162_166.out; have hcz12_0 : w9.cell? ⟨gb166, 0, none⟩ = some (.slice none 0 0) := (blk_cell BK166.out 0).trans rfl; have hcz12_1 : w9.cell? ⟨gb166, 1, none⟩ = some (.slice none 0 0) := (blk_cell BK166.out 1).trans rfl; have hfz12_0 := blk_frozen BK166.out 0; have hfz12_1 := blk_frozen BK166.out 1; have hcz13_0 : w9.cell? ⟨gb161, 0, none⟩ = some (.slice A0_0 l0_0.length c0_0) := (blk_cell BK161.out 0).trans rfl; have hcz13_1 : w9.cell? ⟨gb161, 1, none⟩ = some (.slice A0_1 l0_1.length c0_1) := (blk_cell BK161.out 1).trans rfl; have hfz13_0 := blk_frozen BK161.out 0; have hfz13_1 := blk_frozen BK161.out 1))
 go_loopg [13] k (fun kq v13 w' => ∃ (x13_1 : Int) (x167000_1 : List (S39)) (u167000 : Value), v13 = .int .i64 x13_1 ∧ Aside0 (impl_copySuite.l0 kq l0_0 (l0_0.length : Int) x13_1 x167000_1 t163 = some (r1, r2)) ∧ Aside0 (kq ≤ k) ∧ Aside0 (Kd.S k39 39 w' w.heap.size (fun k_ => some k_ ≠ ((.slice Ao8 t163.length co8) : Value).ownBlock) u167000 x167000_1) ∧ Aside0 (Kd.R (Kd.int .i64) 2 w' w.heap.size (fun _ => True) (.slice Ao8 t163.length co8) t163) ∧ Aside0 (w'.heap[gb161]? = some (.cells #[(.slice A0_0 l0_0.length c0_0), (.slice A0_1 l0_1.length c0_1)] 27 (0, 0))) ∧ Aside0 (w'.heap[gb162]? = some (.cells #[(.slice none 0 0), (.slice none 0 0)] 27 (0, 0))) ∧ Aside0 (w'.heap[gb166]? = some (.cells #[u167000, (.slice Ao8 t163.length co8)] 27 (0, 0))) ∧ Aside0 (Below w.heap.size w w'))
 case atStart => exact ⟨(0), (([] : List (S39))), (.slice none 0 0), (by first | rfl | (simp; done) | (simp [*]; done)), H', ⟨Nat.le_refl _⟩, ⟨by first | exact Kd.S_nil _ _ _ _ _ | exact Kd.N_nil _ _ _ _ _ | exact Kd.V_nil _ _ _ _ _ | exact Kd.Q_nil _ _ _ _ _ | exact Kd.R_nil _ _ _ _ _⟩, ⟨by (with_reducible repeat (first | apply Kd.R_alloc | apply Kd.R_drewN | apply Kd.R_drew)); exact Kd.R_mono (Kd.R_far (p := ⟨gb166, 1, none⟩) (Kd.R_far (p := ⟨gb166, 0, none⟩) (Kd.R_types HO165.out BK166.out (by decide)) (fun _ hk => hk.2) (.slice none 0 0)) (fun _ hk => hk.2) (.slice Ao8 t163.length co8)) (fun _ hk => trivial)⟩, ⟨by (with_reducible repeat (first | refine blk_drewN ?_ _ | refine blk_drew ?_ | refine blk_alloc ?_ _)); refine blk_far ?_ NB161_166.out _; (with_reducible repeat (first | refine blk_drewN ?_ _ | refine blk_drew ?_ | refine blk_alloc ?_ _)); refine blk_far ?_ NB161_166.out _; exact bT_ BK161⟩, ⟨by (with_reducible repeat (first | refine blk_drewN ?_ _ | refine blk_drew ?_ | refine blk_alloc ?_ _)); refine blk_far ?_ NB162_166.out _; (with_reducible repeat (first | refine blk_drewN ?_ _ | refine blk_drew ?_ | refine blk_alloc ?_ _)); refine blk_far ?_ NB162_166.out _; exact bT_ BK162⟩, ⟨by (with_reducible repeat (first | refine blk_drewN ?_ _ | refine blk_drew ?_ | refine blk_alloc ?_ _)); refine blk_put (cs := #[.slice none 0 0, .slice none 0 0]) ?_ 1 _ rfl; (with_reducible repeat (first | refine blk_drewN ?_ _ | refine blk_drew ?_ | refine blk_alloc ?_ _)); refine blk_put (cs := #[.slice none 0 0, .slice none 0 0]) ?_ 0 _ rfl; exact bT_ BK166⟩, ⟨sABelo_7⟩⟩
 case round =>
  clear H'; (try clear c1); (try clear p2); (try clear c4); (try clear c5); (try clear c7); (try clear c10); (try clear c11); (try clear hcz12_0); (try clear hcz12_1); (try clear hcz13_0); (try clear hcz13_1); (try clear hcz6_0); (try clear hcz6_1); (try clear hfz12_0); (try clear hfz12_1); (try clear hfz13_0); (try clear hfz13_1); (try clear hfz6_0); (try clear hfz6_1)
  obtain ⟨x13_1, x167000_1, u167000, rfl, HA, HK1, HO_167000, HO_167001, BK161, BK162, BK166, HB⟩ := hrel
  cases gk with
  | zero => exact absurd HA.out (by simp [impl_copySuite.l0])
  | succ k1 =>
   have H := HA.out; clear HA
   simp only [impl_copySuite.l0] at H
   by_cases c14 : x13_1 < (l0_0.length : Int)
   ·rw [if_pos c14] at H
    have c14b0 : decide (x13_1 < (l0_0.length : Int)) = true := decide_eq_true c14
    clear c14
    obtain ⟨c15, H⟩ := ifS_ H
    have c15b0 : decide (0 ≤ x13_1) = true := decide_eq_true c15
    clear c15
    obtain ⟨c16, H⟩ := ifS_ H
    have c16b0 : decide (x13_1 < (l0_0.length : Int)) = true := decide_eq_true c16
    clear c16; replace H := Option.bind_eq_some_iff.mp H
    obtain ⟨t169, A170, H⟩ := H
    replace H : (if x167000_1.length < 2932031007402 then (impl_copySuite.l0 k1 l0_0 (l0_0.length : Int) (wrap64 (x13_1 + 1)) (x167000_1 ++ [(⟨t169, (rd_T39 l0_0 x13_1).f1, (rd_T39 l0_0 x13_1).f2, (rd_T39 l0_0 x13_1).f3⟩ : S39)]) t163) else (none)) = some (r1, r2) := H
    have A17 := Aside0.mk A170; clear A170
    obtain ⟨c18, H⟩ := ifS_ H
    have LMc18 := Aside0.mk c18; clear c18
    obtain ⟨y172, hy172⟩ : ∃ y_ : List (S39), y_ = (x167000_1 ++ [(⟨t169, (rd_T39 l0_0 x13_1).f1, (rd_T39 l0_0 x13_1).f2, (rd_T39 l0_0 x13_1).f3⟩ : S39)]) := ⟨_, rfl⟩
    replace H : (impl_copySuite.l0 k1 l0_0 (l0_0.length : Int) (wrap64 (x13_1 + 1)) y172 t163) = some (r1, r2) := by first | (rw [hy172]; with_reducible exact H) | (have H2_ := (Option.bind_some _ _).symm.trans H; rw [hy172]; with_reducible exact H2_) | (have H2_ := (Option.bind_some _ _).symm.trans H; with_reducible exact H2_) | with_reducible exact H | (rw [hy172]; exact H) | exact H
    have Ny172 := Aside0.mk hy172; clear hy172; have H' := Aside0.mk H; clear H
    have p167 : 0 ≤ (x13_1 : Int) := of_decide_eq_true (by first | (with_reducible assumption) | assumption)
    have q167 : x13_1 < (l0_0.length : Int) := of_decide_eq_true (by first | (with_reducible assumption) | assumption)
    obtain ⟨ad167, A167_0, c167_0, e167, hx167_0, hx167_1, hx167_2, hx167_3, hl167_0, hi167_0⟩ := at_T39 HR0_0.out x13_1 p167 q167
    cases e167
    replace hx167_0 := (HB.out.cell (World.block_lt_of_cell? w _ hx167_0)).trans hx167_0
    replace hx167_1 := (HB.out.cell (World.block_lt_of_cell? w _ hx167_1)).trans hx167_1
    replace hx167_2 := (HB.out.cell (World.block_lt_of_cell? w _ hx167_2)).trans hx167_2
    replace hx167_3 := (HB.out.cell (World.block_lt_of_cell? w _ hx167_3)).trans hx167_3
    have HR167_0 := Aside0.mk hi167_0; have HC167_0 := Aside0.mk hl167_0; clear hi167_0 hl167_0; replace p167 := eq_true p167; replace q167 := eq_true q167
    go_wp2_with (first | ((with_reducible refine gate_dst (N := 5) rfl ?_); refine box_event ?hg (N := 5) ?hd (cs := #[.slice none 0 0, .int .i64 0, .int .i64 0, .int .i64 0]) (t := 39) ?hr ?_; (case hd => rfl); (case hg => rfl); (case hr => first | (go_simp; done) | (go_simp; rfl)); intro gb168 hg w19 hbox hb; replace HO_167000 := Aside0.mk (Kd.S_below (Kd.S_elderB (by (with_reducible repeat (first | apply Kd.S_alloc | apply Kd.S_drewN | apply Kd.S_drew)); exact HO_167000.out) gb168 (Nat.le_of_eq hg.symm)) hb); replace HO_167001 := rB_ HO_167001 hb; have BK168 := Aside0.mk (hbox); have GW168 := gE_ HB hg; have GE168 := gE_ HB hg; replace HB := bS_ HB hb; have NB161_168 := nL_ BK161 hg; have NB168_161 := nG_ BK161 hg; replace BK161 := bB_ BK161 hb; have NB162_168 := nL_ BK162 hg; have NB168_162 := nG_ BK162 hg; replace BK162 := bB_ BK162 hb; have NB166_168 := nL_ BK166 hg; have NB168_166 := nG_ BK166 hg; replace BK166 := bB_ BK166 hb; clear hb hbox hg; have hnb20 := NB168_161.out; have hnc20 := NB161_168.out; have hnb21 := NB168_162.out; have hnc21 := NB162_168.out; have hnb22 := NB168_166.out; have hnc22 := NB166_168.out; have hcz23_0 : w19.cell? ⟨gb168, 0, none⟩ = some (.slice none 0 0) := (blk_cell BK168.out 0).trans rfl; have hcz23_1 : w19.cell? ⟨gb168, 1, none⟩ = some (.int .i64 0) := (blk_cell BK168.out 1).trans rfl; have hcz23_2 : w19.cell? ⟨gb168, 2, none⟩ = some (.int .i64 0) := (blk_cell BK168.out 2).trans rfl; have hcz23_3 : w19.cell? ⟨gb168, 3, none⟩ = some (.int .i64 0) := (blk_cell BK168.out 3).trans rfl; have hfz23_0 := blk_frozen BK168.out 0; have hfz23_1 := blk_frozen BK168.out 1; have hfz23_2 := blk_frozen BK168.out 2; have hfz23_3 := blk_frozen BK168.out 3) | ((with_reducible refine gate_callee (f := 79) rfl ?_); refine gL_ (some 19) Try.func79 #[.slice A167_0 ((rd_T39 l0_0 x13_1).f0).length c167_0] ?_; (with_reducible refine (slices_Clone_int64_int64.calls _ _ ((rd_T39 l0_0 x13_1).f0) t169 _ ?side1 ?side2 A17.out).mono ?_); (case side1 => exact cBF_ HR167_0 HB GE168); (case side2 => exact HC167_0.out); rintro e w24 ⟨v170, rfl, ho0, hb⟩; refine ⟨_, rfl, ?_⟩; replace HO_167000 := Aside0.mk (Kd.S_elder' (by (with_reducible repeat (first | apply Kd.S_alloc | apply Kd.S_drewN | apply Kd.S_drew)); exact (Kd.S_mono (Kd.S_far (p := ⟨gb168, 3, none⟩) (Kd.S_far (p := ⟨gb168, 2, none⟩) (Kd.S_far (p := ⟨gb168, 1, none⟩) (Kd.S_far (p := ⟨gb168, 0, none⟩) (Kd.S_mono HO_167000.out (fun k_ hk => (⟨hk, hk.2⟩ : _ ∧ k_ ≠ gb168))) (fun _ hk => hk.2) (.slice A167_0 ((rd_T39 l0_0 x13_1).f0).length c167_0)) (fun _ hk => hk.2) (.int .i64 ((rd_T39 l0_0 x13_1).f1))) (fun _ hk => hk.2) (.int .i64 ((rd_T39 l0_0 x13_1).f2))) (fun _ hk => hk.2) (.int .i64 ((rd_T39 l0_0 x13_1).f3))) (fun _ h_ => h_.1))) (Kd.R_base ho0) hb); have HO171 := rLF_ (rN_ ho0 HO_167001) HB; replace HO_167001 := rEF_ HO_167001 BK168 ho0 hb; replace BK161 := bBF_ BK161 NB161_168 hb; replace BK162 := bBF_ BK162 NB162_168 hb; replace BK166 := bBF_ BK166 NB166_168 hb; replace BK168 := Aside0.mk (blk_below (g := gb168) (o := .cells #[.slice A167_0 ((rd_T39 l0_0 x13_1).f0).length c167_0, .int .i64 ((rd_T39 l0_0 x13_1).f1), .int .i64 ((rd_T39 l0_0 x13_1).f2), .int .i64 ((rd_T39 l0_0 x13_1).f3)] 39 (0, 0)) (by (with_reducible repeat (first | refine blk_drewN ?_ _ | refine blk_drew ?_ | refine blk_alloc ?_ _)); refine blk_put (cs := #[.slice A167_0 ((rd_T39 l0_0 x13_1).f0).length c167_0, .int .i64 ((rd_T39 l0_0 x13_1).f1), .int .i64 ((rd_T39 l0_0 x13_1).f2), .int .i64 0]) ?_ 3 _ rfl; (with_reducible repeat (first | refine blk_drewN ?_ _ | refine blk_drew ?_ | refine blk_alloc ?_ _)); refine blk_put (cs := #[.slice A167_0 ((rd_T39 l0_0 x13_1).f0).length c167_0, .int .i64 ((rd_T39 l0_0 x13_1).f1), .int .i64 0, .int .i64 0]) ?_ 2 _ rfl; (with_reducible repeat (first | refine blk_drewN ?_ _ | refine blk_drew ?_ | refine blk_alloc ?_ _)); refine blk_put (cs := #[.slice A167_0 ((rd_T39 l0_0 x13_1).f0).length c167_0, .int .i64 0, .int .i64 0, .int .i64 0]) ?_ 1 _ rfl; (with_reducible repeat (first | refine blk_drewN ?_ _ | refine blk_drew ?_ | refine blk_alloc ?_ _)); refine blk_put (cs := #[.slice none 0 0, .int .i64 0, .int .i64 0, .int .i64 0]) ?_ 0 _ rfl; exact bT_ BK168) hb); replace HB := bSF_ HB GE168 hb; (try clear hb); (try clear hb2); (try clear hk); (try clear hi); (try clear ho0); obtain ⟨Ao25, co25, eo25⟩ := Kd.R_slice HO171.out; subst eo25; have hcz26_0 : w24.cell? ⟨gb168, 0, none⟩ = some (.slice A167_0 ((rd_T39 l0_0 x13_1).f0).length c167_0) := (blk_cell BK168.out 0).trans rfl; have hcz26_1 : w24.cell? ⟨gb168, 1, none⟩ = some (.int .i64 ((rd_T39 l0_0 x13_1).f1)) := (blk_cell BK168.out 1).trans rfl; have hcz26_2 : w24.cell? ⟨gb168, 2, none⟩ = some (.int .i64 ((rd_T39 l0_0 x13_1).f2)) := (blk_cell BK168.out 2).trans rfl; have hcz26_3 : w24.cell? ⟨gb168, 3, none⟩ = some (.int .i64 ((rd_T39 l0_0 x13_1).f3)) := (blk_cell BK168.out 3).trans rfl; have hfz26_0 := blk_frozen BK168.out 0; have hfz26_1 := blk_frozen BK168.out 1; have hfz26_2 := blk_frozen BK168.out 2; have hfz26_3 := blk_frozen BK168.out 3) | ((with_reducible refine gate_store (t := 25) (p := 20) rfl ?_); refine store_event (t := 25) (p := 20) (v := ?vo_w27) (w1 := (w24.setCell ⟨gb168, 0, none⟩ (.slice Ao25 t169.length co25))) ?hg ?ho ?hn ?hr ?_; (case ho => rfl); (case hg => rfl); (case hn => rfl); (case hr => first | (go_simp; done) | (go_simp; rfl)); intro w27 hw; have n0_ : Aside0 (Kd.S k39 39 w27 w.heap.size (fun k_ => some k_ ≠ (.slice Ao8 t163.length co8 : Value).ownBlock ∧ some k_ ≠ (.slice Ao25 t169.length co25 : Value).ownBlock ∧ k_ ≠ gb168) u167000 x167000_1) := ⟨(by rw [hw]; exact (by (with_reducible repeat (first | apply Kd.S_alloc | apply Kd.S_drewN | apply Kd.S_drew)); exact Kd.S_mono (Kd.S_far (p := ⟨gb168, 0, none⟩) (Kd.S_mono HO_167000.out (fun k_ hk => (⟨hk, hk.1.2⟩ : _ ∧ k_ ≠ gb168))) (fun _ hk => hk.2) (.slice Ao25 t169.length co25)) (fun _ hk => ⟨hk.1.1.1, ⟨hk.1.2, hk.1.1.2⟩⟩)))⟩; have n1_ : Aside0 (Kd.R (Kd.int .i64) 2 w27 w.heap.size (fun k_ => some k_ ≠ (.slice Ao25 t169.length co25 : Value).ownBlock) (.slice Ao8 t163.length co8) t163) := ⟨(by rw [hw]; exact (by (with_reducible repeat (first | apply Kd.R_alloc | apply Kd.R_drewN | apply Kd.R_drew)); exact Kd.R_mono (Kd.R_far (p := ⟨gb168, 0, none⟩) (Kd.R_types HO_167001.out BK168.out (by decide)) (fun _ hk => hk.2) (.slice Ao25 t169.length co25)) (fun _ hk => hk.1.2)))⟩; have n2_ : Aside0 (Kd.R (Kd.int .i64) 2 w27 w.heap.size (fun k_ => some k_ ≠ (.slice Ao8 t163.length co8 : Value).ownBlock) (.slice Ao25 t169.length co25) t169) := ⟨(by rw [hw]; exact (by (with_reducible repeat (first | apply Kd.R_alloc | apply Kd.R_drewN | apply Kd.R_drew)); exact Kd.R_mono (Kd.R_far (p := ⟨gb168, 0, none⟩) (Kd.R_types HO171.out BK168.out (by decide)) (fun _ hk => hk.2) (.slice Ao25 t169.length co25)) (fun _ hk => hk.1.2)))⟩; have n3_ : Aside0 (w27.heap[gb161]? = some (.cells #[.slice (some ad167) l0_0.length c0_0, .slice A0_1 l0_1.length c0_1] 27 (0, 0))) := ⟨(by rw [hw]; exact (bF_ BK161 NB161_168))⟩; have n4_ : Aside0 (w27.heap[gb162]? = some (.cells #[.slice none 0 0, .slice none 0 0] 27 (0, 0))) := ⟨(by rw [hw]; exact (bF_ BK162 NB162_168))⟩; have n5_ : Aside0 (w27.heap[gb166]? = some (.cells #[u167000, .slice Ao8 t163.length co8] 27 (0, 0))) := ⟨(by rw [hw]; exact (bF_ BK166 NB166_168))⟩; have n6_ : Aside0 (w27.heap[gb168]? = some (.cells #[.slice Ao25 t169.length co25, .int .i64 ((rd_T39 l0_0 x13_1).f1), .int .i64 ((rd_T39 l0_0 x13_1).f2), .int .i64 ((rd_T39 l0_0 x13_1).f3)] 39 (0, 0))) := ⟨(by rw [hw]; exact (by (with_reducible repeat (first | refine blk_drewN ?_ _ | refine blk_drew ?_ | refine blk_alloc ?_ _)); refine blk_put (cs := #[.slice A167_0 ((rd_T39 l0_0 x13_1).f0).length c167_0, .int .i64 ((rd_T39 l0_0 x13_1).f1), .int .i64 ((rd_T39 l0_0 x13_1).f2), .int .i64 ((rd_T39 l0_0 x13_1).f3)]) ?_ 0 _ rfl; exact bT_ BK168))⟩; have n7_ : Aside0 (Below w.heap.size w w27) := ⟨(by rw [hw]; exact sABelo_7)⟩; clear hw; clear HO_167000; clear HO_167001; clear HO171; clear BK161; clear BK162; clear BK166; clear BK168; clear HB; have HO_167000 := n0_; have HO_167001 := n1_; have HO171 := n2_; have BK161 := n3_; have BK162 := n4_; have BK166 := n5_; have BK168 := n6_; have HB := n7_; clear n0_ n1_ n2_ n3_ n4_ n5_ n6_ n7_; have hnb28 := NB166_161.out; have hnc28 := NB161_166.out; have hnb29 := NB166_162.out; have hnc29 := NB162_166.out; have hcz30_0 : w27.cell? ⟨gb166, 0, none⟩ = some (u167000) := (blk_cell BK166.out 0).trans rfl; have hcz30_1 : w27.cell? ⟨gb166, 1, none⟩ = some (.slice Ao8 t163.length co8) := (blk_cell BK166.out 1).trans rfl; have hfz30_0 := blk_frozen BK166.out 0; have hfz30_1 := blk_frozen BK166.out 1; have hcz31_0 : w27.cell? ⟨gb168, 0, none⟩ = some (.slice Ao25 t169.length co25) := (blk_cell BK168.out 0).trans rfl; have hcz31_1 : w27.cell? ⟨gb168, 1, none⟩ = some (.int .i64 ((rd_T39 l0_0 x13_1).f1)) := (blk_cell BK168.out 1).trans rfl; have hcz31_2 : w27.cell? ⟨gb168, 2, none⟩ = some (.int .i64 ((rd_T39 l0_0 x13_1).f2)) := (blk_cell BK168.out 2).trans rfl; have hcz31_3 : w27.cell? ⟨gb168, 3, none⟩ = some (.int .i64 ((rd_T39 l0_0 x13_1).f3)) := (blk_cell BK168.out 3).trans rfl; have hfz31_0 := blk_frozen BK168.out 0; have hfz31_1 := blk_frozen BK168.out 1; have hfz31_2 := blk_frozen BK168.out 2; have hfz31_3 := blk_frozen BK168.out 3) | ((with_reducible refine gate_builtin (b := .append) (xs := #[.tmp 22, .tmp 24]) rfl ?_); at_builtin; refine Kd.S_append k39 (w0 := w) w.heap.size rfl (.tmp 22) (.tmp 24) 24 39 (.agg #[(.slice none 0 0), (.int .i64 0), (.int .i64 0), (.int .i64 0)]) 48 rfl Try.underlying24 info39 rfl (by decide) (by omega) u167000 x167000_1 (⟨t169, (rd_T39 l0_0 x13_1).f1, (rd_T39 l0_0 x13_1).f2, (rd_T39 l0_0 x13_1).f3⟩ : S39) [.slice Ao25 t169.length co25, .int .i64 ((rd_T39 l0_0 x13_1).f1), .int .i64 ((rd_T39 l0_0 x13_1).f2), .int .i64 ((rd_T39 l0_0 x13_1).f3)] (fun k_ => some k_ ≠ (.slice Ao8 t163.length co8 : Value).ownBlock ∧ k_ ≠ gb168) (fun k_ => some k_ = (.slice Ao25 t169.length co25 : Value).ownBlock) rfl rfl ?aP (fun k_ hk_ => ((Kd.R_mono (ok' := fun k_ => ((fun k_ => some k_ ≠ (.slice Ao8 t163.length co8 : Value).ownBlock ∧ k_ ≠ gb168)) k_ ∧ some k_ ≠ (u167000 : Value).ownBlock) (Kd.R_types (Kd.R_apart' (HO171.out) (Kd.S_typed HO_167000.out) (by decide)) BK168.out (by decide)) (fun k_ hk => ⟨⟨hk.1.1, hk.2⟩, hk.1.2⟩))).1 k_ hk_.symm) ?aF ?aO ?aB ?aS ?aL ?_; (case aP => exact k39_mkM _ _ _ (⟨t169, (rd_T39 l0_0 x13_1).f1, (rd_T39 l0_0 x13_1).f2, (rd_T39 l0_0 x13_1).f3⟩ : S39) (Kd.R_mono (Kd.R_tight rfl (Kd.R_mono (ok' := fun k_ => ((fun k_ => some k_ ≠ (.slice Ao8 t163.length co8 : Value).ownBlock ∧ k_ ≠ gb168)) k_ ∧ some k_ ≠ (u167000 : Value).ownBlock) (Kd.R_types (Kd.R_apart' (HO171.out) (Kd.S_typed HO_167000.out) (by decide)) BK168.out (by decide)) (fun k_ hk => ⟨⟨hk.1.1, hk.2⟩, hk.1.2⟩))) (fun _ h_ => h_))); (case aB => exact sABelo_7); (case aF => exact (fun k_ hk => ⟨Kd.fresh' (rLt_ HO_167001) k_ hk, Kd.freshB (g := gb168) (o := .cells #[.slice Ao25 t169.length co25, .int .i64 ((rd_T39 l0_0 x13_1).f1), .int .i64 ((rd_T39 l0_0 x13_1).f2), .int .i64 ((rd_T39 l0_0 x13_1).f3)] 39 (0, 0)) (bT_ BK168) k_ hk⟩)); (case aO => exact (by (with_reducible repeat (first | apply Kd.S_alloc | apply Kd.S_drewN | apply Kd.S_drew)); exact Kd.S_mono HO_167000.out (fun k_ hk => ⟨⟨hk.1, hk.2.2⟩, fun e_ => hk.2.1 e_⟩))); (case aS => exact (below_size sABelo_7)); (case aL => have := LMc18.out; omega); intro v173 w32 ho hb hg hat; rw [← Ny172.out] at ho; replace HO_167001 := Aside0.mk (Kd.R_over' (rT_ HO_167001) (Kd.S_typed (by (with_reducible repeat (first | apply Kd.S_alloc | apply Kd.S_drewN | apply Kd.S_drew)); exact HO_167000.out)) (by decide) hg); replace BK161 := Aside0.mk (blk_grown (g := gb161) (o := .cells #[.slice (some ad167) l0_0.length c0_0, .slice A0_1 l0_1.length c0_1] 27 (0, 0)) (bT_ BK161) hg (Kd.S_ne HO_167000.out BK161.out (by decide))); replace BK162 := Aside0.mk (blk_grown (g := gb162) (o := .cells #[.slice none 0 0, .slice none 0 0] 27 (0, 0)) (bT_ BK162) hg (Kd.S_ne HO_167000.out BK162.out (by decide))); replace BK166 := Aside0.mk (blk_grown (g := gb166) (o := .cells #[u167000, .slice Ao8 t163.length co8] 27 (0, 0)) (bT_ BK166) hg (Kd.S_ne HO_167000.out BK166.out (by decide))); replace BK168 := Aside0.mk (blk_grown (g := gb168) (o := .cells #[.slice Ao25 t169.length co25, .int .i64 ((rd_T39 l0_0 x13_1).f1), .int .i64 ((rd_T39 l0_0 x13_1).f2), .int .i64 ((rd_T39 l0_0 x13_1).f3)] 39 (0, 0)) (bT_ BK168) hg (Kd.S_away HO_167000.out (fun _ hk => hk.2.2))); replace HB := Aside0.mk (hb); have HO174 := Aside0.mk (ho); clear HO_167000 HO171; clear ho hb hg hat; obtain ⟨Ao33, co33, eo33⟩ := Kd.S_slice HO174.out; subst eo33; have hcz34_0 : w32.cell? ⟨gb166, 0, none⟩ = some (u167000) := (blk_cell BK166.out 0).trans rfl; have hcz34_1 : w32.cell? ⟨gb166, 1, none⟩ = some (.slice Ao8 t163.length co8) := (blk_cell BK166.out 1).trans rfl; have hfz34_0 := blk_frozen BK166.out 0; have hfz34_1 := blk_frozen BK166.out 1))
    go_roundg k1
    case measure => have := HK1.out; omega
    case rel => exact ⟨(wrap64 (x13_1 + 1)), (y172), (.slice Ao33 y172.length co33), (by first | rfl | (simp; done) | (simp [*]; done)), H', ⟨by have := HK1.out; omega⟩, ⟨by (with_reducible repeat (first | apply Kd.S_alloc | apply Kd.S_drewN | apply Kd.S_drew)); exact Kd.S_mono (Kd.S_far (p := ⟨gb166, 0, none⟩) (Kd.S_types HO174.out BK166.out (by decide)) (fun _ hk => hk.2) (.slice Ao33 y172.length co33)) (fun _ hk => hk.1.1)⟩, ⟨by (with_reducible repeat (first | apply Kd.R_alloc | apply Kd.R_drewN | apply Kd.R_drew)); exact Kd.R_mono (Kd.R_far (p := ⟨gb166, 0, none⟩) (Kd.R_types HO_167001.out BK166.out (by decide)) (fun _ hk => hk.2) (.slice Ao33 y172.length co33)) (fun _ hk => trivial)⟩, ⟨by (with_reducible repeat (first | refine blk_drewN ?_ _ | refine blk_drew ?_ | refine blk_alloc ?_ _)); refine blk_far ?_ NB161_166.out _; exact bT_ BK161⟩, ⟨by (with_reducible repeat (first | refine blk_drewN ?_ _ | refine blk_drew ?_ | refine blk_alloc ?_ _)); refine blk_far ?_ NB162_166.out _; exact bT_ BK162⟩, ⟨by (with_reducible repeat (first | refine blk_drewN ?_ _ | refine blk_drew ?_ | refine blk_alloc ?_ _)); refine blk_put (cs := #[u167000, .slice Ao8 t163.length co8]) ?_ 0 _ rfl; exact bT_ BK166⟩, ⟨sABelo_7⟩⟩
   ·rw [if_neg c14] at H
    have c14b0 : decide (x13_1 < (l0_0.length : Int)) = false := decide_eq_false c14
    clear c14
    simp only [Option.some.injEq, Prod.mk.injEq] at H
    obtain ⟨rfl, rfl⟩ := H
    have hnb35 := NB166_161.out; have hnc35 := NB161_166.out; have hnb36 := NB166_162.out; have hnc36 := NB162_166.out
    have hcz37_0 : wr.cell? ⟨gb166, 0, none⟩ = some (u167000) := (blk_cell BK166.out 0).trans rfl
    have hcz37_1 : wr.cell? ⟨gb166, 1, none⟩ = some (.slice Ao8 t163.length co8) := (blk_cell BK166.out 1).trans rfl
    have hfz37_0 := blk_frozen BK166.out 0; have hfz37_1 := blk_frozen BK166.out 1
    obtain ⟨Ao38, co38, eo38⟩ := Kd.S_slice HO_167000.out
    subst eo38
    have hnb39 := NB162_161.out; have hnc39 := NB161_162.out
    have hcz40_0 : wr.cell? ⟨gb162, 0, none⟩ = some (.slice none 0 0) := (blk_cell BK162.out 0).trans rfl
    have hcz40_1 : wr.cell? ⟨gb162, 1, none⟩ = some (.slice none 0 0) := (blk_cell BK162.out 1).trans rfl
    have hfz40_0 := blk_frozen BK162.out 0; have hfz40_1 := blk_frozen BK162.out 1
    go_wp2
    refine bodyPost_ret (results_cell_row rfl _ _ gb162 27 #[.slice Ao38 x167000_1.length co38, .slice Ao8 t163.length co8] (0, 0) _ rfl (by (with_reducible repeat (first | refine blk_drewN ?_ _ | refine blk_drew ?_ | refine blk_alloc ?_ _)); refine blk_put (cs := #[.slice Ao38 x167000_1.length co38, .slice none 0 0]) ?_ 1 _ rfl; (with_reducible repeat (first | refine blk_drewN ?_ _ | refine blk_drew ?_ | refine blk_alloc ?_ _)); refine blk_put (cs := #[.slice none 0 0, .slice none 0 0]) ?_ 0 _ rfl; exact bT_ BK162) Try.underlying27 rfl (by kernel_rfl)) rfl ?_
    exact ⟨_, _, by first | rfl | (simp [errW_none, errW_some] <;> rfl) | (simp [*, errW_none, errW_some] <;> rfl), by (with_reducible repeat (first | apply Kd.S_alloc | apply Kd.S_drewN | apply Kd.S_drew)); exact Kd.S_mono (Kd.S_far (p := ⟨gb162, 1, none⟩) (Kd.S_far (p := ⟨gb162, 0, none⟩) (Kd.S_types HO_167000.out BK162.out (by decide)) (fun _ hk => hk.2) (.slice Ao38 x167000_1.length co38)) (fun _ hk => hk.2) (.slice Ao8 t163.length co8)) (fun _ hk => hk.1), by (with_reducible repeat (first | apply Kd.R_alloc | apply Kd.R_drewN | apply Kd.R_drew)); exact Kd.R_mono (Kd.R_far (p := ⟨gb162, 1, none⟩) (Kd.R_far (p := ⟨gb162, 0, none⟩) (Kd.R_types HO_167001.out BK162.out (by decide)) (fun _ hk => hk.2) (.slice Ao38 x167000_1.length co38)) (fun _ hk => hk.2) (.slice Ao8 t163.length co8)) (fun _ hk => trivial), sABelo_7⟩


/-! ### impl_Job: function 80 -/
def impl_Job.f (l0 : List (S43)) : Option (List (S43)) := if l0.length < 8796093022208 then some l0 else none
set_option maxHeartbeats 8000000 in
set_option maxRecDepth 100000 in
theorem impl_Job.calls (A0 : Option Addr) (c0 : Nat) (l0 : List (S43)) (r : List (S43)) (w : World) (hr0 : Kd.C k43 w A0 l0.length l0) (hc0 : l0.length ≤ c0) (h : impl_Job.f l0 = some r) :
  Calls Try.prog 80 #[.slice A0 l0.length c0] w fun e w' => ∃ v0_ : Value, e = .returned (v0_) ∧ Kd.R k43 43 w' w.heap.size (fun _ => True) v0_ r ∧ Below w.heap.size w w' := by
 unfold impl_Job.f at h
 by_cases c4 : l0.length < 8796093022208
 ·rw [if_pos c4] at h
  obtain rfl := Option.some.inj h
  clear h; have LM := Aside0.mk c4; clear c4; have HR0 := Aside0.mk hr0; have HC0 := Aside0.mk hc0; clear hr0 hc0
  have HB := Aside0.mk (Below.refl w.heap.size w)
  have hq : ∀ (W : World) (a : Option Addr) (m c : Nat), (binOp .eql 29 (.slice a m c) (.slice none 0 0)).run Try.prog W = .ok (.bool a.isNone) W := fun W a m c => Lib.run_eql_slice_nil W 29 43 a m c 0 0 Try.underlying29
  cases A0 with
  | none =>
   have hl : l0 = [] := by
    rcases Nat.eq_zero_or_pos l0.length with h | h
    ·exact List.eq_nil_of_length_eq_zero h
    ·obtain ⟨ad, e, _⟩ := HR0.out.2.2 h
     cases e
   subst hl
   clear HR0 HC0 LM
   go_enter Try.func80, Try.ntmps80
   go_wp2
   go_ret
   exact ⟨_, rfl, Kd.R_nil _ _ _ _ _, sABelo_7⟩
  | some a0 =>
   obtain ⟨y1, hy1⟩ : ∃ y_ : List (S43), y_ = ([] : List (S43)) := ⟨_, rfl⟩
   obtain ⟨y2, hy2⟩ : ∃ y_ : List (S43), y_ = y1 ++ l0 := ⟨_, rfl⟩
   have e2 : y2 = l0 := by rw [hy2, hy1]; rfl
   have LM2 : Aside0 (y1.length + l0.length < 8796093022208) := Aside0.mk (by rw [hy1]; simpa using LM.out)
   have Ny1 := Aside0.mk hy1; have Ny2 := Aside0.mk hy2; have Ne2 := Aside0.mk e2; clear hy1 hy2 e2
   have hg : Calls Try.prog 80 #[.slice (some a0) l0.length c0] w (fun e w' => ∃ v0_ : Value, e = .returned (v0_) ∧ Kd.R k43 43 w' w.heap.size (fun _ => True) v0_ y2 ∧ Below w.heap.size w w') := by
    go_enter Try.func80, Try.ntmps80
    go_wp2_with (first | ((with_reducible refine gate_dst (N := 5) rfl ?_); refine Kd.R_lit k43 _ 43 ?hg (N := 5) ?hd (xs := ([] : List (S43))) (inner := []) (ok := fun _ => True) (okp := fun _ => True) ?hr ?hp (fun _ hk => hk) trivial (Below.refl _ _) (Nat.le_refl _) (by simp) ?_; (case hd => rfl); (case hg => rfl); (case hr => first | (go_simp; done) | (go_simp; rfl)); (case hp => exact (Reps.none _ _)); intro v1 w8 ho9 hb hg_ hnew_; clear hg_ hnew_; rw [← Ny1.out] at ho9; have HO1 := rL_ ho9 HB; replace HB := bS_ HB hb; clear hb ho9) | ((with_reducible refine gate_builtin (b := .append) (xs := #[.tmp 5, .tmp 6]) rfl ?_); at_builtin; refine Kd.R_append_rows k43 (w0 := w) w.heap.size rfl (.tmp 5) (.tmp 6) 29 43 (.agg #[(.int .i64 0), (.int .i64 0)]) 16 rfl Try.underlying29 info43 rfl (by decide) (by omega) v1 y1 l0 _ _ _ (fun _ => True) (fun _ => False) rfl rfl ?aO ?aR (fun _ _ h => h) (fun _ h => h.elim) ?aF ?aB ?aS ?aL ?_; (case aR => repeat (first | exact (Kd.C_below HR0.out HB.out) | (with_reducible refine Kd.C_alloc ?_ _) | (with_reducible refine Kd.C_drewN ?_ _) | (with_reducible refine Kd.C_drew ?_))); (case aB => exact sABelo_7); (case aF => exact (fun _ _ => trivial)); (case aO => exact (rT_ HO1)); (case aS => exact (below_size sABelo_7)); (case aL => have := LM2.out; omega); intro v2 w10 ho hb hg hat; rw [← Ny2.out] at ho; replace HB := Aside0.mk (hb); have HO2 := Aside0.mk (ho); clear HO1; clear ho hb hg hat; obtain ⟨Ao11, co11, eo11⟩ := Kd.R_slice HO2.out; subst eo11))
    go_ret
    exact ⟨_, rfl, by (with_reducible repeat (first | apply Kd.R_alloc | apply Kd.R_drewN | apply Kd.R_drew)); exact HO2.out, sABelo_7⟩
   exact hg.mono fun e w' ⟨v, h1, h2, h3⟩ => ⟨v, h1, by rw [← Ne2.out]; exact h2, h3⟩
 ·rw [if_neg c4] at h
  exact absurd h (by simp)

/-! ### impl_copyRun: function 49 -/
def impl_copyRun.f (k : Nat) (l0_0 : List (S39)) (l0_1 : List Int) (a0_2 : Int) (l0_3 : List (S43)) : Option ((List (S39)) × List Int × Int × (List (S43))) := (impl_copySuite.f k l0_0 l0_1).bind fun bt177 => ((impl_Job.f l0_3).bind fun t183 => (some (bt177.1, bt177.2, a0_2, t183)))
theorem impl_copyRun.mono : ∀ a0 a1 a2 a3 k, LeO (impl_copyRun.f k a0 a1 a2 a3) (impl_copyRun.f (k + 1) a0 a1 a2 a3) := by
 intro a0 a1 a2 a3 k
 unfold impl_copyRun.f
 repeat' first
   | (with_reducible exact impl_copySuite.mono _ _ _)
   | (with_reducible exact LeO.refl _)
   | (with_reducible exact LeO.none _)
   | (with_reducible refine LeO.ite ?_ ?_)
   | (with_reducible refine LeO.bind ?_ (fun _ => ?_))
   | exact impl_copySuite.mono _ _ _
   | exact LeO.none _
   | refine LeO.ite ?_ ?_
   | refine LeO.bind ?_ (fun _ => ?_)
def impl_copyRun.T1 : Bool × List (List Nat × List Nat) := (true, [([], []), ([0], [0]), ([1], [1]), ([], []), ([3], [3]), ([], []), ([5], [5]), ([6, 2], [6]), ([2, 4, 7], [2, 4, 7]), ([8, 7, 0, 1, 2, 3, 4, 5, 6, 7, 8], [8])])
def impl_copyRun.B1 : List Nat := [0, 1, 3, 0, 8, 0, 32, 103, 255, 511]
theorem impl_copyRun.tab1 : rtab .any (opsOf Try.f49 1) = impl_copyRun.T1 := by kernel_rfl
theorem impl_copyRun.bits1 : waitsOk impl_copyRun.T1.2 impl_copyRun.B1 = true := by kernel_rfl
set_option maxHeartbeats 8000000 in
set_option maxRecDepth 100000 in
theorem impl_copyRun.calls (k : Nat) (A0_0 : Option Addr) (c0_0 : Nat) (l0_0 : List (S39)) (A0_1 : Option Addr) (c0_1 : Nat) (l0_1 : List Int) (a0_2 : Int) (A0_3 : Option Addr) (c0_3 : Nat) (l0_3 : List (S43)) (r1 : List (S39)) (r2 : List Int) (r3 : Int) (r4 : List (S43)) (w : World) (hr0_0 : Kd.C k39 w A0_0 l0_0.length l0_0) (hc0_0 : l0_0.length ≤ c0_0) (hr0_1 : Kd.C (Kd.int .i64) w A0_1 l0_1.length l0_1) (hc0_1 : l0_1.length ≤ c0_1) (hr0_3 : Kd.C k43 w A0_3 l0_3.length l0_3) (hc0_3 : l0_3.length ≤ c0_3) (h : impl_copyRun.f k l0_0 l0_1 a0_2 l0_3 = some (r1, r2, r3, r4)) :
  Calls Try.prog 49 #[.agg #[.slice A0_0 l0_0.length c0_0, .slice A0_1 l0_1.length c0_1, .int .i64 a0_2, .slice A0_3 l0_3.length c0_3]] w fun e w' => ∃ v0_ v1_ v3_ : Value, e = .returned (.agg #[v0_, v1_, .int .i64 r3, v3_]) ∧ Kd.S k39 39 w' w.heap.size (fun k_ => some k_ ≠ (v1_ : Value).ownBlock) v0_ r1 ∧ Kd.R (Kd.int .i64) 2 w' w.heap.size (fun _ => True) v1_ r2 ∧ Kd.R k43 43 w' w.heap.size (fun _ => True) v3_ r4 ∧ Below w.heap.size w w' := by
 have hu31 := Try.underlying31; have hu27 := Try.underlying27; have HR0_0 := Aside0.mk hr0_0; have HC0_0 := Aside0.mk hc0_0; clear hr0_0 hc0_0; have HR0_1 := Aside0.mk hr0_1; have HC0_1 := Aside0.mk hc0_1; clear hr0_1 hc0_1; have HR0_3 := Aside0.mk hr0_3; have HC0_3 := Aside0.mk hc0_3; clear hr0_3 hc0_3
 have HB := Aside0.mk (Below.refl w.heap.size w)
 have H : ((impl_copySuite.f k l0_0 l0_1).bind fun bt177 => ((impl_Job.f l0_3).bind fun t183 => (some (bt177.1, bt177.2, a0_2, t183)))) = some (r1, r2, r3, r4) := h
 clear h; replace H := Option.bind_eq_some_iff.mp H
 obtain ⟨⟨t177, t180⟩, A20, H⟩ := H
 replace H : ((impl_Job.f l0_3).bind fun t183 => (some (t177, t180, a0_2, t183))) = some (r1, r2, r3, r4) := H
 have A2 := Aside0.mk A20; clear A20; replace H := Option.bind_eq_some_iff.mp H
 obtain ⟨t183, A30, H⟩ := H
 replace H : (some (t177, t180, a0_2, t183)) = some (r1, r2, r3, r4) := H
 have A3 := Aside0.mk A30; clear A30
 simp only [Option.some.injEq, Prod.mk.injEq] at H
 obtain ⟨rfl, rfl, rfl, rfl⟩ := H
 go_enter Try.func49, Try.ntmps49
 try go_wp2_with (first | ((with_reducible refine gate_dst (N := 1) rfl ?_); refine box_event ?hg (N := 1) ?hd (cs := #[.slice A0_0 l0_0.length c0_0, .slice A0_1 l0_1.length c0_1, .int .i64 a0_2, .slice A0_3 l0_3.length c0_3]) (t := 31) ?hr ?_; (case hd => rfl); (case hg => rfl); (case hr => first | (go_simp; done) | (go_simp; rfl)); intro gb175 hg w4 hbox hb; have BK175 := Aside0.mk (hbox); have GW175 := gE_ HB hg; have GE175 := gE_ HB hg; replace HB := bS_ HB hb; clear hb hbox hg) | ((with_reducible refine gate_dst (N := 2) rfl ?_); refine box_event ?hg (N := 2) ?hd (cs := #[.slice none 0 0, .slice none 0 0, .int .i64 0, .slice none 0 0]) (t := 31) ?hr ?_; (case hd => rfl); (case hg => rfl); (case hr => first | (go_simp; done) | (go_simp; rfl)); intro gb176 hg w5 hbox hb; have BK176 := Aside0.mk (hbox); have GW176 := gE_ HB hg; have GE176 := gE_ HB hg; replace HB := bS_ HB hb; have NB175_176 := nL_ BK175 hg; have NB176_175 := nG_ BK175 hg; replace BK175 := bB_ BK175 hb; clear hb hbox hg))
 replace BK175 := Aside0.mk (blk_drew BK175.out)
 replace BK176 := Aside0.mk (blk_drew BK176.out)
 replace HB := Aside0.mk (below_drew1 HB.out)
 refine start_ (n := 10) (S := fun w' => w'.cell? ⟨gb175, 0, none⟩ = some (.slice A0_0 l0_0.length c0_0) ∧ w'.cell? ⟨gb175, 1, none⟩ = some (.slice A0_1 l0_1.length c0_1) ∧ w'.cell? ⟨gb175, 2, none⟩ = some (.int .i64 a0_2) ∧ w'.cell? ⟨gb175, 3, none⟩ = some (.slice A0_3 l0_3.length c0_3)) (ds := []) #[false, false, false, false, false, false, false, false, false, false] (by kernel_rfl) rfl rfl ⟨(blk_cell BK175.out 0).trans rfl, (blk_cell BK175.out 1).trans rfl, (blk_cell BK175.out 2).trans rfl, (blk_cell BK175.out 3).trans rfl⟩ (fun hHeld => ?_); refine with_tabW impl_copyRun.tab1 impl_copyRun.bits1 (fun HT_ HW_ => ?_)
 generalize w5.drew = w6 at BK175 BK176 HB hHeld ⊢
 refine pT_ 0 (some 3) #[true, false, false, false, false, false, false, false, false, false] HT_ ?_
 refine pT_ 3 (some 6) #[true, false, false, true, false, false, false, false, false, false] HT_ ?_
 refine pT_ 5 (some 8) #[true, false, false, true, false, true, false, false, false, false] HT_ ?_
 refine tT_ 1 (some 4) #[true, true, false, true, false, true, false, false, false, false] HT_ HW_ hHeld ?_ (hy := by rintro w' ⟨s0, s1, s2, s3⟩; go_simp; with_reducible rfl)
 refine tT_ 4 (some 7) #[true, true, false, true, true, true, false, false, false, false] HT_ HW_ hHeld ?_ (hy := by rintro w' ⟨s0, s1, s2, s3⟩; go_simp; with_reducible rfl)
 refine tT_ 6 (some 9) #[true, true, false, true, true, true, true, false, false, false] HT_ HW_ hHeld ?_ (hy := by rintro w' ⟨s0, s1, s2, s3⟩; go_simp; with_reducible rfl)
 refine one_ (i := 2) (N := some 5) #[true, true, true, true, true, true, true, false, false, false] rfl rfl (one_of HT_.out (by kernel_rfl)) (by decide) (fun K hK => ?_)
 refine goes_ Try.func47 (by kernel_rfl) rfl #[.agg #[.slice A0_0 l0_0.length c0_0, .slice A0_1 l0_1.length c0_1]] (by rfl) rfl rfl (by (try simp only [List.map_toArray, List.map_cons, List.map_nil]); first | done | rfl | (simp only [List.length_drop, List.length_take]; rfl)) ?_
 with_reducible refine (impl_copySuite.calls k _ _ l0_0 _ _ l0_1 t177 t180 _ ?side1 ?side2 ?side3 ?side4 A2.out).mono ?_
 (case side1 => exact cB_ HR0_0 HB)
 (case side2 => exact HC0_0.out)
 (case side3 => exact cB_ HR0_1 HB)
 (case side4 => exact HC0_1.out)
 rintro e w7 ⟨v178, v181, rfl, ho0, ho1, hb⟩
 refine ⟨_, rfl, ?_⟩
 have HO179 := Aside0.mk (Kd.S_lower ho0 (below_size sABelo_7))
 have HO182 := rL_ ho1 HB; replace BK175 := bB_ BK175 hb; replace BK176 := bB_ BK176 hb; replace HB := bS_ HB hb; (try clear hb); (try clear hb2); (try clear hk); (try clear hi); (try clear ho0); (try clear ho1)
 refine hK.out _ _ ⟨(blk_cell BK175.out 0).trans rfl, (blk_cell BK175.out 1).trans rfl, (blk_cell BK175.out 2).trans rfl, (blk_cell BK175.out 3).trans rfl⟩ (fun hHeld => ?_)
 clear hK K
 refine nS_ (some 5) ?_
 refine one_ (i := 7) (N := some 10) #[true, true, true, true, true, true, true, true, false, false] rfl rfl (one_of HT_.out (by kernel_rfl)) (by decide) (fun K hK => ?_)
 refine goes_ Try.func80 (by kernel_rfl) rfl #[.slice A0_3 l0_3.length c0_3] (by rfl) rfl rfl (by (try simp only [List.map_toArray, List.map_cons, List.map_nil]); first | done | rfl | (simp only [List.length_drop, List.length_take]; rfl)) ?_
 with_reducible refine (impl_Job.calls _ _ l0_3 t183 _ ?side1 ?side2 A3.out).mono ?_
 (case side1 => exact cB_ HR0_3 HB)
 (case side2 => exact HC0_3.out)
 rintro e w8 ⟨v184, rfl, ho0, hb⟩
 refine ⟨_, rfl, ?_⟩
 replace HO179 := Aside0.mk (Kd.S_below (by (with_reducible repeat (first | apply Kd.S_alloc | apply Kd.S_drewN | apply Kd.S_drew)); exact HO179.out) hb)
 replace HO182 := rB_ HO182 hb; have HO185 := rL_ ho0 HB; replace BK175 := bB_ BK175 hb; replace BK176 := bB_ BK176 hb; replace HB := bS_ HB hb; (try clear hb); (try clear hb2); (try clear hk); (try clear hi); (try clear ho0)
 obtain ⟨Ao9, co9, eo9⟩ := Kd.R_slice HO185.out
 (first | subst eo9 | (injection eo9 with f1_ f2_ f3_; have f4_ := f1_.symm; have f5_ := f3_.symm; clear f1_ f2_ f3_; subst f4_; subst f5_))
 obtain ⟨Ao10, co10, eo10⟩ := Kd.R_slice HO182.out
 (first | subst eo10 | (injection eo10 with f1_ f2_ f3_; have f4_ := f1_.symm; have f5_ := f3_.symm; clear f1_ f2_ f3_; subst f4_; subst f5_))
 obtain ⟨Ao11, co11, eo11⟩ := Kd.S_slice HO179.out
 (first | subst eo11 | (injection eo11 with f1_ f2_ f3_; have f4_ := f1_.symm; have f5_ := f3_.symm; clear f1_ f2_ f3_; subst f4_; subst f5_))
 refine hK.out _ _ ⟨(blk_cell BK175.out 0).trans rfl, (blk_cell BK175.out 1).trans rfl, (blk_cell BK175.out 2).trans rfl, (blk_cell BK175.out 3).trans rfl⟩ (fun hHeld => ?_)
 clear hK K
 refine nS_ (some 10) ?_
 refine pT_ 8 (some 11) #[true, true, true, true, true, true, true, true, true, false] HT_ ?_
 refine one_ (i := 9) (N := none) #[true, true, true, true, true, true, true, true, true, true] rfl rfl (one_of HT_.out (by kernel_rfl)) (by decide) (fun K hK => ?_)
 have hs12 : w8.cell? ⟨gb176, 0, none⟩ = some (.slice none 0 0) := (blk_cell BK176.out 0).trans rfl
 have hfs12 := blk_frozen BK176.out 0; have hns12_0 := NB175_176.out; have hms12_0 := NB176_175.out
 have hs13 : w8.cell? ⟨gb176, 1, none⟩ = some (.slice none 0 0) := (blk_cell BK176.out 1).trans rfl
 have hfs13 := blk_frozen BK176.out 1; have hns13_0 := NB175_176.out; have hms13_0 := NB176_175.out
 have hs14 : w8.cell? ⟨gb176, 2, none⟩ = some (.int .i64 0) := (blk_cell BK176.out 2).trans rfl
 have hfs14 := blk_frozen BK176.out 2; have hns14_0 := NB175_176.out; have hms14_0 := NB176_175.out
 have hs15 : w8.cell? ⟨gb176, 3, none⟩ = some (.slice none 0 0) := (blk_cell BK176.out 3).trans rfl
 have hfs15 := blk_frozen BK176.out 3; have hns15_0 := NB175_176.out; have hms15_0 := NB176_175.out
 refine skip_ (w1 := ?_) (by rfl) rfl ?_ ?_
 rotate_left
 ·go_simp
  rfl
 refine hK.out _ _ ⟨((cell_far (p := ⟨gb176, _, none⟩) NB175_176.out _).trans (((cell_far (p := ⟨gb176, _, none⟩) NB175_176.out _).trans (((cell_far (p := ⟨gb176, _, none⟩) NB175_176.out _).trans (((cell_far (p := ⟨gb176, _, none⟩) NB175_176.out _).trans (hHeld.1)))))))), ((cell_far (p := ⟨gb176, _, none⟩) NB175_176.out _).trans (((cell_far (p := ⟨gb176, _, none⟩) NB175_176.out _).trans (((cell_far (p := ⟨gb176, _, none⟩) NB175_176.out _).trans (((cell_far (p := ⟨gb176, _, none⟩) NB175_176.out _).trans (hHeld.2.1)))))))), ((cell_far (p := ⟨gb176, _, none⟩) NB175_176.out _).trans (((cell_far (p := ⟨gb176, _, none⟩) NB175_176.out _).trans (((cell_far (p := ⟨gb176, _, none⟩) NB175_176.out _).trans (((cell_far (p := ⟨gb176, _, none⟩) NB175_176.out _).trans (hHeld.2.2.1)))))))), ((cell_far (p := ⟨gb176, _, none⟩) NB175_176.out _).trans (((cell_far (p := ⟨gb176, _, none⟩) NB175_176.out _).trans (((cell_far (p := ⟨gb176, _, none⟩) NB175_176.out _).trans (((cell_far (p := ⟨gb176, _, none⟩) NB175_176.out _).trans (hHeld.2.2.2))))))))⟩ (fun hHeld => ?_)
 clear hK K
 refine done_ (done_of HT_.out (by kernel_rfl)) ?_
 try go_wp2
 refine bodyPost_ret (results_cell_row rfl _ _ gb176 31 #[.slice Ao11 t177.length co11, .slice Ao10 t180.length co10, .int .i64 a0_2, .slice Ao9 t183.length co9] (0, 0) _ rfl (by (with_reducible repeat (first | refine blk_drewN ?_ _ | refine blk_drew ?_ | refine blk_alloc ?_ _)); refine blk_put (cs := #[.slice Ao11 t177.length co11, .slice Ao10 t180.length co10, .int .i64 a0_2, .slice none 0 0]) ?_ 3 _ rfl; (with_reducible repeat (first | refine blk_drewN ?_ _ | refine blk_drew ?_ | refine blk_alloc ?_ _)); refine blk_put (cs := #[.slice Ao11 t177.length co11, .slice Ao10 t180.length co10, .int .i64 0, .slice none 0 0]) ?_ 2 _ rfl; (with_reducible repeat (first | refine blk_drewN ?_ _ | refine blk_drew ?_ | refine blk_alloc ?_ _)); refine blk_put (cs := #[.slice Ao11 t177.length co11, .slice none 0 0, .int .i64 0, .slice none 0 0]) ?_ 1 _ rfl; (with_reducible repeat (first | refine blk_drewN ?_ _ | refine blk_drew ?_ | refine blk_alloc ?_ _)); refine blk_put (cs := #[.slice none 0 0, .slice none 0 0, .int .i64 0, .slice none 0 0]) ?_ 0 _ rfl; exact bT_ BK176) Try.underlying31 rfl (by kernel_rfl)) rfl ?_
 exact ⟨_, _, _, by first | rfl | (simp [errW_none, errW_some] <;> rfl) | (simp [*, errW_none, errW_some] <;> rfl), by (with_reducible repeat (first | apply Kd.S_alloc | apply Kd.S_drewN | apply Kd.S_drew)); exact Kd.S_mono (Kd.S_far (p := ⟨gb176, 3, none⟩) (Kd.S_far (p := ⟨gb176, 2, none⟩) (Kd.S_far (p := ⟨gb176, 1, none⟩) (Kd.S_far (p := ⟨gb176, 0, none⟩) (Kd.S_types HO179.out BK176.out (by decide)) (fun _ hk => hk.2) (.slice Ao11 t177.length co11)) (fun _ hk => hk.2) (.slice Ao10 t180.length co10)) (fun _ hk => hk.2) (.int .i64 a0_2)) (fun _ hk => hk.2) (.slice Ao9 t183.length co9)) (fun _ hk => hk.1), by (with_reducible repeat (first | apply Kd.R_alloc | apply Kd.R_drewN | apply Kd.R_drew)); exact Kd.R_mono (Kd.R_far (p := ⟨gb176, 3, none⟩) (Kd.R_far (p := ⟨gb176, 2, none⟩) (Kd.R_far (p := ⟨gb176, 1, none⟩) (Kd.R_far (p := ⟨gb176, 0, none⟩) (Kd.R_types HO182.out BK176.out (by decide)) (fun _ hk => hk.2) (.slice Ao11 t177.length co11)) (fun _ hk => hk.2) (.slice Ao10 t180.length co10)) (fun _ hk => hk.2) (.int .i64 a0_2)) (fun _ hk => hk.2) (.slice Ao9 t183.length co9)) (fun _ hk => trivial), by (with_reducible repeat (first | apply Kd.R_alloc | apply Kd.R_drewN | apply Kd.R_drew)); exact Kd.R_mono (Kd.R_far (p := ⟨gb176, 3, none⟩) (Kd.R_far (p := ⟨gb176, 2, none⟩) (Kd.R_far (p := ⟨gb176, 1, none⟩) (Kd.R_far (p := ⟨gb176, 0, none⟩) (Kd.R_types HO185.out BK176.out (by decide)) (fun _ hk => hk.2) (.slice Ao11 t177.length co11)) (fun _ hk => hk.2) (.slice Ao10 t180.length co10)) (fun _ hk => hk.2) (.int .i64 a0_2)) (fun _ hk => hk.2) (.slice Ao9 t183.length co9)) (fun _ hk => trivial), sABelo_7⟩

/-! ### impl_CrashRun: function 16 -/
def impl_CrashRun.l0 : Nat → Int → Int → List (S39) → List Int → Int → List (S43) → Option ((List (S39)) × List Int × Int × (List (S43)))
 | 0, _, _, _, _, _, _ => none
 | k + 1, x14, x15, x200000, x200001, x200002, x200003 => if x15 < x14 then (if 0 ≤ x15 then (if x15 < (x200003.length : Int) then (if ((rd_T43 x200003 x15).f0) = 1 then ((some (x200003.set (x15 : Int).toNat (⟨0, (rd_T43 x200003 x15).f1⟩ : S43) : List (S43))).bind fun y201 => (impl_CrashRun.l0 k x14 (wrap64 (x15 + 1)) x200000 x200001 x200002 (y201.set (x15 : Int).toNat (⟨(rd_T43 y201 x15).f0, wrap64 (((rd_T43 y201 x15).f1) - 1)⟩ : S43)))) else (impl_CrashRun.l0 k x14 (wrap64 (x15 + 1)) x200000 x200001 x200002 x200003)) else (none)) else (none)) else (some (x200000, x200001, x200002, x200003))
def impl_CrashRun.f (k : Nat) (l0_0 : List (S39)) (l0_1 : List Int) (a0_2 : Int) (l0_3 : List (S43)) : Option ((List (S39)) × List Int × Int × (List (S43))) := (impl_runOk.f k l0_0 l0_1 a0_2 l0_3).bind fun t188 => (if t188 = true then ((impl_copyRun.f k l0_0 l0_1 a0_2 l0_3).bind fun bt189 => (impl_CrashRun.l0 k (bt189.2.2.2.length : Int) 0 bt189.1 bt189.2.1 bt189.2.2.1 bt189.2.2.2)) else (some (([] : List (S39)), ([] : List Int), 0, ([] : List (S43)))))
theorem impl_CrashRun.mono_l : ∀ k, (∀ y0 y1 y2 y3 y4 y5, LeO (impl_CrashRun.l0 k y0 y1 y2 y3 y4 y5) (impl_CrashRun.l0 (k + 1) y0 y1 y2 y3 y4 y5))
 | 0 => fun _ _ _ _ _ _ r h => by simp [impl_CrashRun.l0] at h
 | k + 1 => by
  have ih0 := impl_CrashRun.mono_l k
  ·intro y0 y1 y2 y3 y4 y5
   unfold impl_CrashRun.l0
   repeat' first
   | (with_reducible exact ih0 _ _ _ _ _ _)
   | (with_reducible exact impl_copyRun.mono _ _ _ _ _)
   | (with_reducible exact impl_runOk.mono _ _ _ _ _)
   | (with_reducible exact LeO.refl _)
   | (with_reducible exact LeO.none _)
   | (with_reducible refine LeO.ite ?_ ?_)
   | (with_reducible refine LeO.bind ?_ (fun _ => ?_))
   | exact ih0 _ _ _ _ _ _
   | exact impl_copyRun.mono _ _ _ _ _
   | exact impl_runOk.mono _ _ _ _ _
   | exact LeO.none _
   | refine LeO.ite ?_ ?_
   | refine LeO.bind ?_ (fun _ => ?_)
theorem impl_CrashRun.mono : ∀ a0 a1 a2 a3 k, LeO (impl_CrashRun.f k a0 a1 a2 a3) (impl_CrashRun.f (k + 1) a0 a1 a2 a3) := by
 intro a0 a1 a2 a3 k
 have ih0 := impl_CrashRun.mono_l k
 unfold impl_CrashRun.f
 repeat' first
   | (with_reducible exact ih0 _ _ _ _ _ _)
   | (with_reducible exact impl_copyRun.mono _ _ _ _ _)
   | (with_reducible exact impl_runOk.mono _ _ _ _ _)
   | (with_reducible exact LeO.refl _)
   | (with_reducible exact LeO.none _)
   | (with_reducible refine LeO.ite ?_ ?_)
   | (with_reducible refine LeO.bind ?_ (fun _ => ?_))
   | exact ih0 _ _ _ _ _ _
   | exact impl_copyRun.mono _ _ _ _ _
   | exact impl_runOk.mono _ _ _ _ _
   | exact LeO.none _
   | refine LeO.ite ?_ ?_
   | refine LeO.bind ?_ (fun _ => ?_)
set_option maxHeartbeats 8000000 in
set_option maxRecDepth 100000 in
theorem impl_CrashRun.calls (k : Nat) (A0_0 : Option Addr) (c0_0 : Nat) (l0_0 : List (S39)) (A0_1 : Option Addr) (c0_1 : Nat) (l0_1 : List Int) (a0_2 : Int) (A0_3 : Option Addr) (c0_3 : Nat) (l0_3 : List (S43)) (r1 : List (S39)) (r2 : List Int) (r3 : Int) (r4 : List (S43)) (w : World) (hr0_0 : Kd.C k39 w A0_0 l0_0.length l0_0) (hc0_0 : l0_0.length ≤ c0_0) (hr0_1 : Kd.C (Kd.int .i64) w A0_1 l0_1.length l0_1) (hc0_1 : l0_1.length ≤ c0_1) (hr0_3 : Kd.C k43 w A0_3 l0_3.length l0_3) (hc0_3 : l0_3.length ≤ c0_3) (h : impl_CrashRun.f k l0_0 l0_1 a0_2 l0_3 = some (r1, r2, r3, r4)) :
  Calls Try.prog 16 #[.agg #[.slice A0_0 l0_0.length c0_0, .slice A0_1 l0_1.length c0_1, .int .i64 a0_2, .slice A0_3 l0_3.length c0_3]] w fun e w' => ∃ v0_ v1_ v3_ : Value, e = .returned (.agg #[v0_, v1_, .int .i64 r3, v3_]) ∧ Kd.S k39 39 w' w.heap.size (fun k_ => some k_ ≠ (v1_ : Value).ownBlock) v0_ r1 ∧ Kd.R (Kd.int .i64) 2 w' w.heap.size (fun _ => True) v1_ r2 ∧ Kd.R k43 43 w' w.heap.size (fun _ => True) v3_ r4 ∧ Below w.heap.size w w' := by
 have hu31 := Try.underlying31; have HR0_0 := Aside0.mk hr0_0; have HC0_0 := Aside0.mk hc0_0; clear hr0_0 hc0_0; have HR0_1 := Aside0.mk hr0_1; have HC0_1 := Aside0.mk hc0_1; clear hr0_1 hc0_1; have HR0_3 := Aside0.mk hr0_3; have HC0_3 := Aside0.mk hc0_3; clear hr0_3 hc0_3
 have HB := Aside0.mk (Below.refl w.heap.size w)
 have H : ((impl_runOk.f k l0_0 l0_1 a0_2 l0_3).bind fun t188 => (if t188 = true then ((impl_copyRun.f k l0_0 l0_1 a0_2 l0_3).bind fun bt189 => (impl_CrashRun.l0 k (bt189.2.2.2.length : Int) 0 bt189.1 bt189.2.1 bt189.2.2.1 bt189.2.2.2)) else (some (([] : List (S39)), ([] : List Int), 0, ([] : List (S43)))))) = some (r1, r2, r3, r4) := h
 clear h; replace H := Option.bind_eq_some_iff.mp H
 obtain ⟨t188, A20, H⟩ := H
 replace H : (if t188 = true then ((impl_copyRun.f k l0_0 l0_1 a0_2 l0_3).bind fun bt189 => (impl_CrashRun.l0 k (bt189.2.2.2.length : Int) 0 bt189.1 bt189.2.1 bt189.2.2.1 bt189.2.2.2)) else (some (([] : List (S39)), ([] : List Int), 0, ([] : List (S43))))) = some (r1, r2, r3, r4) := H
 have A2 := Aside0.mk A20; clear A20
 by_cases c3 : t188 = true
 ·subst c3
  have H1 : ((impl_copyRun.f k l0_0 l0_1 a0_2 l0_3).bind fun bt189 => (impl_CrashRun.l0 k (bt189.2.2.2.length : Int) 0 bt189.1 bt189.2.1 bt189.2.2.1 bt189.2.2.2)) = some (r1, r2, r3, r4) := by rw [if_pos rfl] at H; exact H
  clear H; have H := H1; clear H1; replace H := Option.bind_eq_some_iff.mp H
  obtain ⟨⟨t189, t192, t195, t196⟩, A40, H⟩ := H
  replace H : (impl_CrashRun.l0 k (t196.length : Int) 0 t189 t192 t195 t196) = some (r1, r2, r3, r4) := H
  have A4 := Aside0.mk A40; clear A40; have H' := Aside0.mk H; clear H
  go_enter Try.func16, Try.ntmps16
  go_wp2_with (first | ((with_reducible refine gate_dst (N := 1) rfl ?_); refine box_event ?hg (N := 1) ?hd (cs := #[.slice A0_0 l0_0.length c0_0, .slice A0_1 l0_1.length c0_1, .int .i64 a0_2, .slice A0_3 l0_3.length c0_3]) (t := 31) ?hr ?_; (case hd => rfl); (case hg => rfl); (case hr => first | (go_simp; done) | (go_simp; rfl)); intro gb186 hg w5 hbox hb; have BK186 := Aside0.mk (hbox); have GW186 := gE_ HB hg; have GE186 := gE_ HB hg; replace HB := bS_ HB hb; clear hb hbox hg) | ((with_reducible refine gate_dst (N := 2) rfl ?_); refine box_event ?hg (N := 2) ?hd (cs := #[.slice none 0 0, .slice none 0 0, .int .i64 0, .slice none 0 0]) (t := 31) ?hr ?_; (case hd => rfl); (case hg => rfl); (case hr => first | (go_simp; done) | (go_simp; rfl)); intro gb187 hg w6 hbox hb; have BK187 := Aside0.mk (hbox); have GW187 := gE_ HB hg; have GE187 := gE_ HB hg; replace HB := bS_ HB hb; have NB186_187 := nL_ BK186 hg; have NB187_186 := nG_ BK186 hg; replace BK186 := bB_ BK186 hb; clear hb hbox hg; have hnb7 := NB186_187.out; have hnc7 := NB187_186.out; have hcz8_0 : w6.cell? ⟨gb186, 0, none⟩ = some (.slice A0_0 l0_0.length c0_0) := (blk_cell BK186.out 0).trans rfl; have hcz8_1 : w6.cell? ⟨gb186, 1, none⟩ = some (.slice A0_1 l0_1.length c0_1) := (blk_cell BK186.out 1).trans rfl; have hcz8_2 : w6.cell? ⟨gb186, 2, none⟩ = some (.int .i64 a0_2) := (blk_cell BK186.out 2).trans rfl; have hcz8_3 : w6.cell? ⟨gb186, 3, none⟩ = some (.slice A0_3 l0_3.length c0_3) := (blk_cell BK186.out 3).trans rfl; have hfz8_0 := blk_frozen BK186.out 0; have hfz8_1 := blk_frozen BK186.out 1; have hfz8_2 := blk_frozen BK186.out 2; have hfz8_3 := blk_frozen BK186.out 3) | ((with_reducible refine gate_callee (f := 48) rfl ?_); refine gL_ (some 7) Try.func48 #[.agg #[.slice A0_0 l0_0.length c0_0, .slice A0_1 l0_1.length c0_1, .int .i64 a0_2, .slice A0_3 l0_3.length c0_3]] ?_; (with_reducible refine (impl_runOk.calls k _ _ l0_0 _ _ l0_1 a0_2 _ _ l0_3 true _ ?side1 ?side2 ?side3 ?side4 ?side5 ?side6 A2.out).mono ?_); (case side1 => exact cB_ HR0_0 HB); (case side2 => exact HC0_0.out); (case side3 => exact cB_ HR0_1 HB); (case side4 => exact HC0_1.out); (case side5 => exact cB_ HR0_3 HB); (case side6 => exact HC0_3.out); rintro e w9 ⟨rfl, hb⟩; refine ⟨_, rfl, ?_⟩; replace BK186 := bB_ BK186 hb; replace BK187 := bB_ BK187 hb; replace HB := bS_ HB hb; (try clear hb); (try clear hb2); (try clear hk); (try clear hi); have hcz10_0 : w9.cell? ⟨gb186, 0, none⟩ = some (.slice A0_0 l0_0.length c0_0) := (blk_cell BK186.out 0).trans rfl; have hcz10_1 : w9.cell? ⟨gb186, 1, none⟩ = some (.slice A0_1 l0_1.length c0_1) := (blk_cell BK186.out 1).trans rfl; have hcz10_2 : w9.cell? ⟨gb186, 2, none⟩ = some (.int .i64 a0_2) := (blk_cell BK186.out 2).trans rfl; have hcz10_3 : w9.cell? ⟨gb186, 3, none⟩ = some (.slice A0_3 l0_3.length c0_3) := (blk_cell BK186.out 3).trans rfl; have hfz10_0 := blk_frozen BK186.out 0; have hfz10_1 := blk_frozen BK186.out 1; have hfz10_2 := blk_frozen BK186.out 2; have hfz10_3 := blk_frozen BK186.out 3) | ((with_reducible refine gate_callee (f := 49) rfl ?_); refine gL_ (some 11) Try.func49 #[.agg #[.slice A0_0 l0_0.length c0_0, .slice A0_1 l0_1.length c0_1, .int .i64 a0_2, .slice A0_3 l0_3.length c0_3]] ?_; (with_reducible refine (impl_copyRun.calls k _ _ l0_0 _ _ l0_1 a0_2 _ _ l0_3 t189 t192 t195 t196 _ ?side1 ?side2 ?side3 ?side4 ?side5 ?side6 A4.out).mono ?_); (case side1 => exact cB_ HR0_0 HB); (case side2 => exact HC0_0.out); (case side3 => exact cB_ HR0_1 HB); (case side4 => exact HC0_1.out); (case side5 => exact cB_ HR0_3 HB); (case side6 => exact HC0_3.out); rintro e w11 ⟨v190, v193, v197, rfl, ho0, ho1, ho2, hb⟩; refine ⟨_, rfl, ?_⟩; have HO191 := Aside0.mk (Kd.S_lower ho0 (below_size sABelo_7)); have HO194 := rL_ ho1 HB; have HO198 := rL_ ho2 HB; replace BK186 := bB_ BK186 hb; replace BK187 := bB_ BK187 hb; replace HB := bS_ HB hb; (try clear hb); (try clear hb2); (try clear hk); (try clear hi); (try clear ho0); (try clear ho1); (try clear ho2)) | ((with_reducible refine gate_dst (N := 3) rfl ?_); refine box_event ?hg (N := 3) ?hd (cs := #[.slice none 0 0, .slice none 0 0, .int .i64 0, .slice none 0 0]) (t := 31) ?hr ?_; (case hd => rfl); (case hg => rfl); (case hr => first | (go_simp; done) | (go_simp; rfl)); intro gb199 hg w12 hbox hb; replace HO191 := Aside0.mk (Kd.S_below (by (with_reducible repeat (first | apply Kd.S_alloc | apply Kd.S_drewN | apply Kd.S_drew)); exact HO191.out) hb); replace HO194 := rB_ HO194 hb; replace HO198 := rB_ HO198 hb; have BK199 := Aside0.mk (hbox); have GW199 := gE_ HB hg; have GE199 := gE_ HB hg; replace HB := bS_ HB hb; have NB186_199 := nL_ BK186 hg; have NB199_186 := nG_ BK186 hg; replace BK186 := bB_ BK186 hb; have NB187_199 := nL_ BK187 hg; have NB199_187 := nG_ BK187 hg; replace BK187 := bB_ BK187 hb; clear hb hbox hg; obtain ⟨Ao13, co13, eo13⟩ := Kd.S_slice HO191.out; subst eo13; have hnb14 := NB199_186.out; have hnc14 := NB186_199.out; have hnb15 := NB199_187.out; have hnc15 := NB187_199.out; have hcz16_0 : w12.cell? ⟨gb199, 0, none⟩ = some (.slice none 0 0) := (blk_cell BK199.out 0).trans rfl; have hcz16_1 : w12.cell? ⟨gb199, 1, none⟩ = some (.slice none 0 0) := (blk_cell BK199.out 1).trans rfl; have hcz16_2 : w12.cell? ⟨gb199, 2, none⟩ = some (.int .i64 0) := (blk_cell BK199.out 2).trans rfl; have hcz16_3 : w12.cell? ⟨gb199, 3, none⟩ = some (.slice none 0 0) := (blk_cell BK199.out 3).trans rfl; have hfz16_0 := blk_frozen BK199.out 0; have hfz16_1 := blk_frozen BK199.out 1; have hfz16_2 := blk_frozen BK199.out 2; have hfz16_3 := blk_frozen BK199.out 3; obtain ⟨Ao17, co17, eo17⟩ := Kd.R_slice HO194.out; subst eo17; obtain ⟨Ao18, co18, eo18⟩ := Kd.R_slice HO198.out; subst eo18))
  go_loopg [15] k (fun kq v15 w' => ∃ (x15_1 : Int) (x200003_1 : List (S43)) (u200003 : Value), v15 = .int .i64 x15_1 ∧ Aside0 (impl_CrashRun.l0 kq (t196.length : Int) x15_1 t189 t192 t195 x200003_1 = some (r1, r2, r3, r4)) ∧ Aside0 (kq ≤ k) ∧ Aside0 (Kd.S k39 39 w' w.heap.size (fun k_ => some k_ ≠ ((.slice Ao17 t192.length co17) : Value).ownBlock) (.slice Ao13 t189.length co13) t189) ∧ Aside0 (Kd.R (Kd.int .i64) 2 w' w.heap.size (fun _ => True) (.slice Ao17 t192.length co17) t192) ∧ Aside0 (Kd.R k43 43 w' w.heap.size (fun _ => True) u200003 x200003_1) ∧ Aside0 (w'.heap[gb186]? = some (.cells #[(.slice A0_0 l0_0.length c0_0), (.slice A0_1 l0_1.length c0_1), .int .i64 a0_2, (.slice A0_3 l0_3.length c0_3)] 31 (0, 0))) ∧ Aside0 (w'.heap[gb187]? = some (.cells #[(.slice none 0 0), (.slice none 0 0), .int .i64 0, (.slice none 0 0)] 31 (0, 0))) ∧ Aside0 (w'.heap[gb199]? = some (.cells #[(.slice Ao13 t189.length co13), (.slice Ao17 t192.length co17), .int .i64 t195, u200003] 31 (0, 0))) ∧ Aside0 (Below w.heap.size w w'))
  case atStart => exact ⟨(0), (t196), (.slice Ao18 t196.length co18), (by first | rfl | (simp; done) | (simp [*]; done)), H', ⟨Nat.le_refl _⟩, ⟨by (with_reducible repeat (first | apply Kd.S_alloc | apply Kd.S_drewN | apply Kd.S_drew)); exact Kd.S_mono (Kd.S_far (p := ⟨gb199, 3, none⟩) (Kd.S_far (p := ⟨gb199, 2, none⟩) (Kd.S_far (p := ⟨gb199, 1, none⟩) (Kd.S_far (p := ⟨gb199, 0, none⟩) (Kd.S_types HO191.out BK199.out (by decide)) (fun _ hk => hk.2) (.slice Ao13 t189.length co13)) (fun _ hk => hk.2) (.slice Ao17 t192.length co17)) (fun _ hk => hk.2) (.int .i64 t195)) (fun _ hk => hk.2) (.slice Ao18 t196.length co18)) (fun _ hk => hk.1)⟩, ⟨by (with_reducible repeat (first | apply Kd.R_alloc | apply Kd.R_drewN | apply Kd.R_drew)); exact Kd.R_mono (Kd.R_far (p := ⟨gb199, 3, none⟩) (Kd.R_far (p := ⟨gb199, 2, none⟩) (Kd.R_far (p := ⟨gb199, 1, none⟩) (Kd.R_far (p := ⟨gb199, 0, none⟩) (Kd.R_types HO194.out BK199.out (by decide)) (fun _ hk => hk.2) (.slice Ao13 t189.length co13)) (fun _ hk => hk.2) (.slice Ao17 t192.length co17)) (fun _ hk => hk.2) (.int .i64 t195)) (fun _ hk => hk.2) (.slice Ao18 t196.length co18)) (fun _ hk => trivial)⟩, ⟨by (with_reducible repeat (first | apply Kd.R_alloc | apply Kd.R_drewN | apply Kd.R_drew)); exact Kd.R_mono (Kd.R_far (p := ⟨gb199, 3, none⟩) (Kd.R_far (p := ⟨gb199, 2, none⟩) (Kd.R_far (p := ⟨gb199, 1, none⟩) (Kd.R_far (p := ⟨gb199, 0, none⟩) (Kd.R_types HO198.out BK199.out (by decide)) (fun _ hk => hk.2) (.slice Ao13 t189.length co13)) (fun _ hk => hk.2) (.slice Ao17 t192.length co17)) (fun _ hk => hk.2) (.int .i64 t195)) (fun _ hk => hk.2) (.slice Ao18 t196.length co18)) (fun _ hk => trivial)⟩, ⟨by (with_reducible repeat (first | refine blk_drewN ?_ _ | refine blk_drew ?_ | refine blk_alloc ?_ _)); refine blk_far ?_ NB186_199.out _; (with_reducible repeat (first | refine blk_drewN ?_ _ | refine blk_drew ?_ | refine blk_alloc ?_ _)); refine blk_far ?_ NB186_199.out _; (with_reducible repeat (first | refine blk_drewN ?_ _ | refine blk_drew ?_ | refine blk_alloc ?_ _)); refine blk_far ?_ NB186_199.out _; (with_reducible repeat (first | refine blk_drewN ?_ _ | refine blk_drew ?_ | refine blk_alloc ?_ _)); refine blk_far ?_ NB186_199.out _; exact bT_ BK186⟩, ⟨by (with_reducible repeat (first | refine blk_drewN ?_ _ | refine blk_drew ?_ | refine blk_alloc ?_ _)); refine blk_far ?_ NB187_199.out _; (with_reducible repeat (first | refine blk_drewN ?_ _ | refine blk_drew ?_ | refine blk_alloc ?_ _)); refine blk_far ?_ NB187_199.out _; (with_reducible repeat (first | refine blk_drewN ?_ _ | refine blk_drew ?_ | refine blk_alloc ?_ _)); refine blk_far ?_ NB187_199.out _; (with_reducible repeat (first | refine blk_drewN ?_ _ | refine blk_drew ?_ | refine blk_alloc ?_ _)); refine blk_far ?_ NB187_199.out _; exact bT_ BK187⟩, ⟨by (with_reducible repeat (first | refine blk_drewN ?_ _ | refine blk_drew ?_ | refine blk_alloc ?_ _)); refine blk_put (cs := #[.slice Ao13 t189.length co13, .slice Ao17 t192.length co17, .int .i64 t195, .slice none 0 0]) ?_ 3 _ rfl; (with_reducible repeat (first | refine blk_drewN ?_ _ | refine blk_drew ?_ | refine blk_alloc ?_ _)); refine blk_put (cs := #[.slice Ao13 t189.length co13, .slice Ao17 t192.length co17, .int .i64 0, .slice none 0 0]) ?_ 2 _ rfl; (with_reducible repeat (first | refine blk_drewN ?_ _ | refine blk_drew ?_ | refine blk_alloc ?_ _)); refine blk_put (cs := #[.slice Ao13 t189.length co13, .slice none 0 0, .int .i64 0, .slice none 0 0]) ?_ 1 _ rfl; (with_reducible repeat (first | refine blk_drewN ?_ _ | refine blk_drew ?_ | refine blk_alloc ?_ _)); refine blk_put (cs := #[.slice none 0 0, .slice none 0 0, .int .i64 0, .slice none 0 0]) ?_ 0 _ rfl; exact bT_ BK199⟩, ⟨sABelo_7⟩⟩
  case round =>
   clear H'; (try clear c1); (try clear p2); (try clear c3); (try clear c4); (try clear c7); (try clear c14); (try clear c15); (try clear c16); (try clear hcz10_0); (try clear hcz10_1); (try clear hcz10_2); (try clear hcz10_3); (try clear hcz16_0); (try clear hcz16_1); (try clear hcz16_2); (try clear hcz16_3); (try clear hcz8_0); (try clear hcz8_1); (try clear hcz8_2); (try clear hcz8_3); (try clear hfz10_0); (try clear hfz10_1); (try clear hfz10_2); (try clear hfz10_3); (try clear hfz16_0); (try clear hfz16_1); (try clear hfz16_2); (try clear hfz16_3); (try clear hfz8_0); (try clear hfz8_1); (try clear hfz8_2); (try clear hfz8_3)
   obtain ⟨x15_1, x200003_1, u200003, rfl, HA, HK1, HO_200000, HO_200001, HO_200003, BK186, BK187, BK199, HB⟩ := hrel
   cases gk with
   | zero => exact absurd HA.out (by simp [impl_CrashRun.l0])
   | succ k1 =>
    have H := HA.out; clear HA
    simp only [impl_CrashRun.l0] at H
    by_cases c19 : x15_1 < (t196.length : Int)
    ·rw [if_pos c19] at H
     have c19b0 : decide (x15_1 < (t196.length : Int)) = true := decide_eq_true c19
     clear c19
     obtain ⟨c20, H⟩ := ifS_ H
     have c20b0 : decide (0 ≤ x15_1) = true := decide_eq_true c20
     clear c20
     obtain ⟨c21, H⟩ := ifS_ H
     have c21b0 : decide (x15_1 < (x200003_1.length : Int)) = true := decide_eq_true c21
     clear c21
     by_cases c22 : ((rd_T43 x200003_1 x15_1).f0) = 1
     ·rw [if_pos c22] at H
      have c22b0 : (((rd_T43 x200003_1 x15_1).f0) == 1) = true := beq_iff_eq.mpr c22
      have c22b1 : (((rd_T43 x200003_1 x15_1).f0) != 1) = false := bne_eq_false_iff_eq.mpr c22
      clear c22
      obtain ⟨y201, hy201⟩ : ∃ y_ : List (S43), y_ = (x200003_1.set (x15_1 : Int).toNat (⟨0, (rd_T43 x200003_1 x15_1).f1⟩ : S43)) := ⟨_, rfl⟩
      replace H : (impl_CrashRun.l0 k1 (t196.length : Int) (wrap64 (x15_1 + 1)) t189 t192 t195 (y201.set (x15_1 : Int).toNat (⟨(rd_T43 y201 x15_1).f0, wrap64 (((rd_T43 y201 x15_1).f1) - 1)⟩ : S43))) = some (r1, r2, r3, r4) := by first | (rw [hy201]; with_reducible exact H) | (have H2_ := (Option.bind_some _ _).symm.trans H; rw [hy201]; with_reducible exact H2_) | (have H2_ := (Option.bind_some _ _).symm.trans H; with_reducible exact H2_) | with_reducible exact H | (rw [hy201]; exact H) | exact H
      have Ny201 := Aside0.mk hy201; clear hy201
      obtain ⟨y202, hy202⟩ : ∃ y_ : List (S43), y_ = (y201.set (x15_1 : Int).toNat (⟨(rd_T43 y201 x15_1).f0, wrap64 (((rd_T43 y201 x15_1).f1) - 1)⟩ : S43)) := ⟨_, rfl⟩
      replace H : (impl_CrashRun.l0 k1 (t196.length : Int) (wrap64 (x15_1 + 1)) t189 t192 t195 y202) = some (r1, r2, r3, r4) := by first | (rw [hy202]; with_reducible exact H) | (have H2_ := (Option.bind_some _ _).symm.trans H; rw [hy202]; with_reducible exact H2_) | (have H2_ := (Option.bind_some _ _).symm.trans H; with_reducible exact H2_) | with_reducible exact H | (rw [hy202]; exact H) | exact H
      have Ny202 := Aside0.mk hy202; clear hy202; have H' := Aside0.mk H; clear H; have hnb25 := NB199_186.out; have hnc25 := NB186_199.out; have hnb26 := NB199_187.out; have hnc26 := NB187_199.out
      have hcz27_0 : wr.cell? ⟨gb199, 0, none⟩ = some (.slice Ao13 t189.length co13) := (blk_cell BK199.out 0).trans rfl
      have hcz27_1 : wr.cell? ⟨gb199, 1, none⟩ = some (.slice Ao17 t192.length co17) := (blk_cell BK199.out 1).trans rfl
      have hcz27_2 : wr.cell? ⟨gb199, 2, none⟩ = some (.int .i64 t195) := (blk_cell BK199.out 2).trans rfl
      have hcz27_3 : wr.cell? ⟨gb199, 3, none⟩ = some (u200003) := (blk_cell BK199.out 3).trans rfl
      have hfz27_0 := blk_frozen BK199.out 0; have hfz27_1 := blk_frozen BK199.out 1; have hfz27_2 := blk_frozen BK199.out 2; have hfz27_3 := blk_frozen BK199.out 3
      obtain ⟨Ao28, co28, eo28⟩ := Kd.R_slice HO_200003.out
      subst eo28
      have p200 : 0 ≤ (x15_1 : Int) := of_decide_eq_true (by first | (with_reducible assumption) | assumption)
      have q200 : x15_1 < (x200003_1.length : Int) := of_decide_eq_true (by first | (with_reducible assumption) | assumption)
      obtain ⟨ad200, e200, hx200_0, hx200_1⟩ := at_T43 (Kd.R_reads' HO_200003.out).2.2 x15_1 p200 q200
      cases e200
      replace p200 := eq_true p200; replace q200 := eq_true q200
      have p23 : 0 ≤ (x15_1 : Int) := of_decide_eq_true (by first | (with_reducible assumption) | assumption)
      have q23 : (x15_1 : Int) < ((x200003_1.length : Int) : Int) := of_decide_eq_true (by first | (with_reducible assumption) | assumption)
      obtain ⟨go23, co23, eo23, gb23, gl23, cl23, HG23⟩ := Kd.R_form HO_200003.out (by omega)
      (first | cases eo23 | (injection eo23 with ea_ en_ ec_; (first | subst ea_ | (injection ea_ with ea_; subst ea_)); subst ec_; clear en_))
      have GB23 := Aside0.mk gb23; have GG23 := Aside0.mk HG23; clear gb23 gl23 HG23
      (first | simp only [add_plain] at hx200_0 | skip)
      (first | simp only [add_plain] at hx200_1 | skip)
      obtain ⟨ce23, hcl23, hM23, hcc23, hfr23⟩ := Kd.R_elem HO_200003.out z43 (x15_1 : Int) p23 q23
      obtain rfl := k43_openM hM23
      have hx23_0 : wr.cell? ⟨go23, (x15_1 : Int).toNat * 2, none⟩ = some (.int .i64 ((rd_T43 x200003_1 x15_1).f0)) := hcc23 0 _ rfl
      have hx23_1 : wr.cell? ⟨go23, (x15_1 : Int).toNat * 2 + 1, none⟩ = some (.int .i64 ((rd_T43 x200003_1 x15_1).f1)) := hcc23 1 _ rfl
      have hf23_0 : wr.frozen? ⟨go23, (x15_1 : Int).toNat * 2, none⟩ = false := hfr23 0
      have hf23_1 : wr.frozen? ⟨go23, (x15_1 : Int).toNat * 2 + 1, none⟩ = false := hfr23 1
      clear hcl23 hcc23 hfr23 hM23; replace p23 := eq_true p23; replace q23 := eq_true q23
      have HX29 := Aside0.mk (show Kd.R k43 43 wr w.heap.size (fun _ => True) (.slice (some ⟨go23, 0, none⟩) x200003_1.length co28) x200003_1 from (rT_ HO_200003))
      obtain ⟨ce29, hcl29, hM29, hcc29, hfr29⟩ := Kd.R_elem HX29.out z43 (x15_1 : Int) (of_decide_eq_true (by first | (with_reducible assumption) | assumption)) (by have h_ : (x15_1 : Int) < ((x200003_1.length : Int) : Int) := of_decide_eq_true (by first | (with_reducible assumption) | assumption); first | exact h_ | (have e_ := (Kd.R_reads' HO_200003.out).1; omega) | simpa using h_)
      obtain rfl := k43_openM hM29
      have HP29 := Kd.R_seg HX29.out (x15_1 : Int) (of_decide_eq_true (by first | (with_reducible assumption) | assumption)) (by have h_ : (x15_1 : Int) < ((x200003_1.length : Int) : Int) := of_decide_eq_true (by first | (with_reducible assumption) | assumption); first | exact h_ | (have e_ := (Kd.R_reads' HO_200003.out).1; omega) | simpa using h_) (seg := [.int .i64 0]) (j := 0) hcl29 hcc29 (show 1 ≤ 2 from by decide) (x' := (⟨0, (rd_T43 x200003_1 x15_1).f1⟩ : S43)) (k43_mkM _ _ _ (⟨0, (rd_T43 x200003_1 x15_1).f1⟩ : S43) ) (fun _ hk => hk)
      have hx29_0 := hcc29 0 _ rfl
      (try simp only [show (k43).sz = 2 from rfl, Nat.mul_one, Nat.add_zero] at hx29_0)
      have hf29_0 := hfr29 0
      (try simp only [show (k43).sz = 2 from rfl, Nat.mul_one, Nat.add_zero] at hf29_0)
      clear hcl29 hcc29 hfr29 hM29
      go_wp2_with (first | ((with_reducible refine gate_store (t := 2) (p := 29) rfl ?_); refine store_event (t := 2) (p := 29) (v := ?vo_w30) (w1 := (wr.setCell ⟨go23, (x15_1 : Int).toNat * 2, none⟩ (.int .i64 0))) ?hg ?ho ?hn ?hr ?_; (case ho => rfl); (case hg => rfl); (case hn => rfl); (case hr => first | (go_simp; done) | (go_simp; rfl)); intro w30 hw; have hg : wr.grownBy w30 (some go23) := (by rw [hw]; exact HP29.2); have hp_ : Kd.R k43 43 w30 w.heap.size (fun _ => True) (.slice (some ⟨go23, 0, none⟩) x200003_1.length co28) y201 := (by rw [hw, Ny201.out]; exact HP29.1); clear HP29; replace HO_200000 := Aside0.mk (Kd.S_over' (v := (.slice (some ⟨go23, 0, none⟩) x200003_1.length co28)) (by (with_reducible repeat (first | apply Kd.S_alloc | apply Kd.S_drewN | apply Kd.S_drew)); exact HO_200000.out) (Kd.R_typed HO_200003.out) (by decide) hg); replace HO_200001 := Aside0.mk (Kd.R_over' (v := (.slice (some ⟨go23, 0, none⟩) x200003_1.length co28)) (rT_ HO_200001) (Kd.R_typed HO_200003.out) (by decide) hg); replace BK186 := Aside0.mk (blk_grown (g := gb186) (o := .cells #[.slice A0_0 l0_0.length c0_0, .slice A0_1 l0_1.length c0_1, .int .i64 a0_2, .slice A0_3 l0_3.length c0_3] 31 (0, 0)) (bT_ BK186) hg (Kd.R_ne HO_200003.out BK186.out (by decide))); replace BK187 := Aside0.mk (blk_grown (g := gb187) (o := .cells #[.slice none 0 0, .slice none 0 0, .int .i64 0, .slice none 0 0] 31 (0, 0)) (bT_ BK187) hg (Kd.R_ne HO_200003.out BK187.out (by decide))); replace BK199 := Aside0.mk (blk_grown (g := gb199) (o := .cells #[.slice Ao13 t189.length co13, .slice Ao17 t192.length co17, .int .i64 t195, .slice (some ⟨go23, 0, none⟩) x200003_1.length co28] 31 (0, 0)) (bT_ BK199) hg (Kd.R_ne HO_200003.out BK199.out (by decide))); replace HO_200003 := Aside0.mk (hp_); replace HB := Aside0.mk ((by rw [hw]; exact below_set (HB.out) GB23.out : Below w.heap.size w w30)); clear hg hw hp_; have hcz31_0 : w30.cell? ⟨gb199, 0, none⟩ = some (.slice Ao13 t189.length co13) := (blk_cell BK199.out 0).trans rfl; have hcz31_1 : w30.cell? ⟨gb199, 1, none⟩ = some (.slice Ao17 t192.length co17) := (blk_cell BK199.out 1).trans rfl; have hcz31_2 : w30.cell? ⟨gb199, 2, none⟩ = some (.int .i64 t195) := (blk_cell BK199.out 2).trans rfl; have hcz31_3 : w30.cell? ⟨gb199, 3, none⟩ = some (.slice (some ⟨go23, 0, none⟩) x200003_1.length co28) := (blk_cell BK199.out 3).trans rfl; have hfz31_0 := blk_frozen BK199.out 0; have hfz31_1 := blk_frozen BK199.out 1; have hfz31_2 := blk_frozen BK199.out 2; have hfz31_3 := blk_frozen BK199.out 3; have p24 : 0 ≤ (x15_1 : Int) := of_decide_eq_true (by first | (with_reducible assumption) | assumption); have q24 : (x15_1 : Int) < ((x200003_1.length : Int) : Int) := of_decide_eq_true (by first | (with_reducible assumption) | assumption); obtain ⟨ce24, hcl24, hM24, hcc24, hfr24⟩ := Kd.R_elem HO_200003.out z43 (x15_1 : Int) p24 q24; obtain rfl := k43_openM hM24; have hx24_0 : w30.cell? ⟨go23, (x15_1 : Int).toNat * 2, none⟩ = some (.int .i64 ((rd_T43 y201 x15_1).f0)) := hcc24 0 _ rfl; have hx24_1 : w30.cell? ⟨go23, (x15_1 : Int).toNat * 2 + 1, none⟩ = some (.int .i64 ((rd_T43 y201 x15_1).f1)) := hcc24 1 _ rfl; have hf24_0 : w30.frozen? ⟨go23, (x15_1 : Int).toNat * 2, none⟩ = false := hfr24 0; have hf24_1 : w30.frozen? ⟨go23, (x15_1 : Int).toNat * 2 + 1, none⟩ = false := hfr24 1; clear hcl24 hcc24 hfr24 hM24; replace p24 := eq_true p24; replace q24 := eq_true q24; have HX32 := Aside0.mk (show Kd.R k43 43 w30 w.heap.size (fun _ => True) (.slice (some ⟨go23, 0, none⟩) x200003_1.length co28) y201 from (rT_ HO_200003)); obtain ⟨ce32, hcl32, hM32, hcc32, hfr32⟩ := Kd.R_elem HX32.out z43 (x15_1 : Int) (of_decide_eq_true (by first | (with_reducible assumption) | assumption)) (by have h_ : (x15_1 : Int) < ((x200003_1.length : Int) : Int) := of_decide_eq_true (by first | (with_reducible assumption) | assumption); first | exact h_ | (have e_ := (Kd.R_reads' HO_200003.out).1; omega) | simpa using h_); obtain rfl := k43_openM hM32; have HP32 := Kd.R_seg HX32.out (x15_1 : Int) (of_decide_eq_true (by first | (with_reducible assumption) | assumption)) (by have h_ : (x15_1 : Int) < ((x200003_1.length : Int) : Int) := of_decide_eq_true (by first | (with_reducible assumption) | assumption); first | exact h_ | (have e_ := (Kd.R_reads' HO_200003.out).1; omega) | simpa using h_) (seg := [.int .i64 (wrap64 (((rd_T43 y201 x15_1).f1) - 1))]) (j := 1) hcl32 hcc32 (show 2 ≤ 2 from by decide) (x' := (⟨(rd_T43 y201 x15_1).f0, wrap64 (((rd_T43 y201 x15_1).f1) - 1)⟩ : S43)) (k43_mkM _ _ _ (⟨(rd_T43 y201 x15_1).f0, wrap64 (((rd_T43 y201 x15_1).f1) - 1)⟩ : S43) ) (fun _ hk => hk); have hx32_1 := hcc32 1 _ rfl; (try simp only [show (k43).sz = 2 from rfl, Nat.mul_one, Nat.add_zero] at hx32_1); have hf32_1 := hfr32 1; (try simp only [show (k43).sz = 2 from rfl, Nat.mul_one, Nat.add_zero] at hf32_1); clear hcl32 hcc32 hfr32 hM32) | ((with_reducible refine gate_store (t := 2) (p := 36) rfl ?_); refine store_event (t := 2) (p := 36) (v := ?vo_w33) (w1 := (w30.setCell ⟨go23, (x15_1 : Int).toNat * 2 + 1, none⟩ (.int .i64 (wrap64 (((rd_T43 y201 x15_1).f1) - 1))))) ?hg ?ho ?hn ?hr ?_; (case ho => rfl); (case hg => rfl); (case hn => rfl); (case hr => first | (go_simp; done) | (go_simp; rfl)); intro w33 hw; have hg : w30.grownBy w33 (some go23) := (by rw [hw]; exact HP32.2); have hp_ : Kd.R k43 43 w33 w.heap.size (fun _ => True) (.slice (some ⟨go23, 0, none⟩) x200003_1.length co28) y202 := (by rw [hw, Ny202.out]; exact HP32.1); clear HP32; replace HO_200000 := Aside0.mk (Kd.S_over' (v := (.slice (some ⟨go23, 0, none⟩) x200003_1.length co28)) (by (with_reducible repeat (first | apply Kd.S_alloc | apply Kd.S_drewN | apply Kd.S_drew)); exact HO_200000.out) (Kd.R_typed HO_200003.out) (by decide) hg); replace HO_200001 := Aside0.mk (Kd.R_over' (v := (.slice (some ⟨go23, 0, none⟩) x200003_1.length co28)) (rT_ HO_200001) (Kd.R_typed HO_200003.out) (by decide) hg); replace BK186 := Aside0.mk (blk_grown (g := gb186) (o := .cells #[.slice A0_0 l0_0.length c0_0, .slice A0_1 l0_1.length c0_1, .int .i64 a0_2, .slice A0_3 l0_3.length c0_3] 31 (0, 0)) (bT_ BK186) hg (Kd.R_ne HO_200003.out BK186.out (by decide))); replace BK187 := Aside0.mk (blk_grown (g := gb187) (o := .cells #[.slice none 0 0, .slice none 0 0, .int .i64 0, .slice none 0 0] 31 (0, 0)) (bT_ BK187) hg (Kd.R_ne HO_200003.out BK187.out (by decide))); replace BK199 := Aside0.mk (blk_grown (g := gb199) (o := .cells #[.slice Ao13 t189.length co13, .slice Ao17 t192.length co17, .int .i64 t195, .slice (some ⟨go23, 0, none⟩) x200003_1.length co28] 31 (0, 0)) (bT_ BK199) hg (Kd.R_ne HO_200003.out BK199.out (by decide))); replace HO_200003 := Aside0.mk (hp_); replace HB := Aside0.mk ((by rw [hw]; exact below_set (HB.out) GB23.out : Below w.heap.size w w33)); clear hg hw hp_))
      go_roundg k1
      case measure => have := HK1.out; omega
      case rel => exact ⟨(wrap64 (x15_1 + 1)), (y202), (.slice (some ⟨go23, 0, none⟩) x200003_1.length co28), (by first | rfl | (simp; done) | (simp [*]; done)), H', ⟨by have := HK1.out; omega⟩, ⟨by (with_reducible repeat (first | apply Kd.S_alloc | apply Kd.S_drewN | apply Kd.S_drew)); exact HO_200000.out⟩, ⟨by (with_reducible repeat (first | apply Kd.R_alloc | apply Kd.R_drewN | apply Kd.R_drew)); exact HO_200001.out⟩, ⟨by (with_reducible repeat (first | apply Kd.R_alloc | apply Kd.R_drewN | apply Kd.R_drew)); exact HO_200003.out⟩, ⟨by exact bT_ BK186⟩, ⟨by exact bT_ BK187⟩, ⟨by exact bT_ BK199⟩, ⟨sABelo_7⟩⟩
     ·rw [if_neg c22] at H
      have c22b0 : (((rd_T43 x200003_1 x15_1).f0) == 1) = false := beq_eq_false_iff_ne.mpr c22
      have c22b1 : (((rd_T43 x200003_1 x15_1).f0) != 1) = true := bne_iff_ne.mpr c22
      have H' := Aside0.mk H; clear H; have hnb34 := NB199_186.out; have hnc34 := NB186_199.out; have hnb35 := NB199_187.out; have hnc35 := NB187_199.out
      have hcz36_0 : wr.cell? ⟨gb199, 0, none⟩ = some (.slice Ao13 t189.length co13) := (blk_cell BK199.out 0).trans rfl
      have hcz36_1 : wr.cell? ⟨gb199, 1, none⟩ = some (.slice Ao17 t192.length co17) := (blk_cell BK199.out 1).trans rfl
      have hcz36_2 : wr.cell? ⟨gb199, 2, none⟩ = some (.int .i64 t195) := (blk_cell BK199.out 2).trans rfl
      have hcz36_3 : wr.cell? ⟨gb199, 3, none⟩ = some (u200003) := (blk_cell BK199.out 3).trans rfl
      have hfz36_0 := blk_frozen BK199.out 0; have hfz36_1 := blk_frozen BK199.out 1; have hfz36_2 := blk_frozen BK199.out 2; have hfz36_3 := blk_frozen BK199.out 3
      obtain ⟨Ao37, co37, eo37⟩ := Kd.R_slice HO_200003.out
      subst eo37
      have p200 : 0 ≤ (x15_1 : Int) := of_decide_eq_true (by first | (with_reducible assumption) | assumption)
      have q200 : x15_1 < (x200003_1.length : Int) := of_decide_eq_true (by first | (with_reducible assumption) | assumption)
      obtain ⟨ad200, e200, hx200_0, hx200_1⟩ := at_T43 (Kd.R_reads' HO_200003.out).2.2 x15_1 p200 q200
      cases e200
      replace p200 := eq_true p200; replace q200 := eq_true q200
      go_wp2
      go_roundg k1
      case measure => have := HK1.out; omega
      case rel => exact ⟨(wrap64 (x15_1 + 1)), (x200003_1), (.slice (some ad200) x200003_1.length co37), (by first | rfl | (simp; done) | (simp [*]; done)), H', ⟨by have := HK1.out; omega⟩, ⟨by (with_reducible repeat (first | apply Kd.S_alloc | apply Kd.S_drewN | apply Kd.S_drew)); exact HO_200000.out⟩, ⟨by (with_reducible repeat (first | apply Kd.R_alloc | apply Kd.R_drewN | apply Kd.R_drew)); exact HO_200001.out⟩, ⟨by (with_reducible repeat (first | apply Kd.R_alloc | apply Kd.R_drewN | apply Kd.R_drew)); exact HO_200003.out⟩, ⟨by exact bT_ BK186⟩, ⟨by exact bT_ BK187⟩, ⟨by exact bT_ BK199⟩, ⟨sABelo_7⟩⟩
    ·rw [if_neg c19] at H
     have c19b0 : decide (x15_1 < (t196.length : Int)) = false := decide_eq_false c19
     clear c19
     simp only [Option.some.injEq, Prod.mk.injEq] at H
     obtain ⟨rfl, rfl, rfl, rfl⟩ := H
     have hnb38 := NB199_186.out; have hnc38 := NB186_199.out; have hnb39 := NB199_187.out; have hnc39 := NB187_199.out
     have hcz40_0 : wr.cell? ⟨gb199, 0, none⟩ = some (.slice Ao13 t189.length co13) := (blk_cell BK199.out 0).trans rfl
     have hcz40_1 : wr.cell? ⟨gb199, 1, none⟩ = some (.slice Ao17 t192.length co17) := (blk_cell BK199.out 1).trans rfl
     have hcz40_2 : wr.cell? ⟨gb199, 2, none⟩ = some (.int .i64 t195) := (blk_cell BK199.out 2).trans rfl
     have hcz40_3 : wr.cell? ⟨gb199, 3, none⟩ = some (u200003) := (blk_cell BK199.out 3).trans rfl
     have hfz40_0 := blk_frozen BK199.out 0; have hfz40_1 := blk_frozen BK199.out 1; have hfz40_2 := blk_frozen BK199.out 2; have hfz40_3 := blk_frozen BK199.out 3; have hnb41 := NB187_186.out; have hnc41 := NB186_187.out
     have hcz42_0 : wr.cell? ⟨gb187, 0, none⟩ = some (.slice none 0 0) := (blk_cell BK187.out 0).trans rfl
     have hcz42_1 : wr.cell? ⟨gb187, 1, none⟩ = some (.slice none 0 0) := (blk_cell BK187.out 1).trans rfl
     have hcz42_2 : wr.cell? ⟨gb187, 2, none⟩ = some (.int .i64 0) := (blk_cell BK187.out 2).trans rfl
     have hcz42_3 : wr.cell? ⟨gb187, 3, none⟩ = some (.slice none 0 0) := (blk_cell BK187.out 3).trans rfl
     have hfz42_0 := blk_frozen BK187.out 0; have hfz42_1 := blk_frozen BK187.out 1; have hfz42_2 := blk_frozen BK187.out 2; have hfz42_3 := blk_frozen BK187.out 3
     obtain ⟨Ao43, co43, eo43⟩ := Kd.R_slice HO_200003.out
     subst eo43
     go_wp2
     refine bodyPost_ret (results_cell_row rfl _ _ gb187 31 #[.slice Ao13 t189.length co13, .slice Ao17 t192.length co17, .int .i64 t195, .slice Ao43 x200003_1.length co43] (0, 0) _ rfl (by (with_reducible repeat (first | refine blk_drewN ?_ _ | refine blk_drew ?_ | refine blk_alloc ?_ _)); refine blk_put (cs := #[.slice Ao13 t189.length co13, .slice Ao17 t192.length co17, .int .i64 t195, .slice none 0 0]) ?_ 3 _ rfl; (with_reducible repeat (first | refine blk_drewN ?_ _ | refine blk_drew ?_ | refine blk_alloc ?_ _)); refine blk_put (cs := #[.slice Ao13 t189.length co13, .slice Ao17 t192.length co17, .int .i64 0, .slice none 0 0]) ?_ 2 _ rfl; (with_reducible repeat (first | refine blk_drewN ?_ _ | refine blk_drew ?_ | refine blk_alloc ?_ _)); refine blk_put (cs := #[.slice Ao13 t189.length co13, .slice none 0 0, .int .i64 0, .slice none 0 0]) ?_ 1 _ rfl; (with_reducible repeat (first | refine blk_drewN ?_ _ | refine blk_drew ?_ | refine blk_alloc ?_ _)); refine blk_put (cs := #[.slice none 0 0, .slice none 0 0, .int .i64 0, .slice none 0 0]) ?_ 0 _ rfl; exact bT_ BK187) Try.underlying31 rfl (by kernel_rfl)) rfl ?_
     exact ⟨_, _, _, by first | rfl | (simp [errW_none, errW_some] <;> rfl) | (simp [*, errW_none, errW_some] <;> rfl), by (with_reducible repeat (first | apply Kd.S_alloc | apply Kd.S_drewN | apply Kd.S_drew)); exact Kd.S_mono (Kd.S_far (p := ⟨gb187, 3, none⟩) (Kd.S_far (p := ⟨gb187, 2, none⟩) (Kd.S_far (p := ⟨gb187, 1, none⟩) (Kd.S_far (p := ⟨gb187, 0, none⟩) (Kd.S_types HO_200000.out BK187.out (by decide)) (fun _ hk => hk.2) (.slice Ao13 t189.length co13)) (fun _ hk => hk.2) (.slice Ao17 t192.length co17)) (fun _ hk => hk.2) (.int .i64 t195)) (fun _ hk => hk.2) (.slice Ao43 x200003_1.length co43)) (fun _ hk => hk.1), by (with_reducible repeat (first | apply Kd.R_alloc | apply Kd.R_drewN | apply Kd.R_drew)); exact Kd.R_mono (Kd.R_far (p := ⟨gb187, 3, none⟩) (Kd.R_far (p := ⟨gb187, 2, none⟩) (Kd.R_far (p := ⟨gb187, 1, none⟩) (Kd.R_far (p := ⟨gb187, 0, none⟩) (Kd.R_types HO_200001.out BK187.out (by decide)) (fun _ hk => hk.2) (.slice Ao13 t189.length co13)) (fun _ hk => hk.2) (.slice Ao17 t192.length co17)) (fun _ hk => hk.2) (.int .i64 t195)) (fun _ hk => hk.2) (.slice Ao43 x200003_1.length co43)) (fun _ hk => trivial), by (with_reducible repeat (first | apply Kd.R_alloc | apply Kd.R_drewN | apply Kd.R_drew)); exact Kd.R_mono (Kd.R_far (p := ⟨gb187, 3, none⟩) (Kd.R_far (p := ⟨gb187, 2, none⟩) (Kd.R_far (p := ⟨gb187, 1, none⟩) (Kd.R_far (p := ⟨gb187, 0, none⟩) (Kd.R_types HO_200003.out BK187.out (by decide)) (fun _ hk => hk.2) (.slice Ao13 t189.length co13)) (fun _ hk => hk.2) (.slice Ao17 t192.length co17)) (fun _ hk => hk.2) (.int .i64 t195)) (fun _ hk => hk.2) (.slice Ao43 x200003_1.length co43)) (fun _ hk => trivial), sABelo_7⟩
 ·replace c3 := Bool.eq_false_iff.mpr c3
  subst c3
  have H1 : (some (([] : List (S39)), ([] : List Int), 0, ([] : List (S43)))) = some (r1, r2, r3, r4) := by rw [if_neg (show ¬ (false = true) by decide)] at H; exact H
  clear H; have H := H1; clear H1
  simp only [Option.some.injEq, Prod.mk.injEq] at H
  obtain ⟨rfl, rfl, rfl, rfl⟩ := H
  go_enter Try.func16, Try.ntmps16
  go_wp2_with (first | ((with_reducible refine gate_dst (N := 1) rfl ?_); refine box_event ?hg (N := 1) ?hd (cs := #[.slice A0_0 l0_0.length c0_0, .slice A0_1 l0_1.length c0_1, .int .i64 a0_2, .slice A0_3 l0_3.length c0_3]) (t := 31) ?hr ?_; (case hd => rfl); (case hg => rfl); (case hr => first | (go_simp; done) | (go_simp; rfl)); intro gb186 hg w44 hbox hb; have BK186 := Aside0.mk (hbox); have GW186 := gE_ HB hg; have GE186 := gE_ HB hg; replace HB := bS_ HB hb; clear hb hbox hg) | ((with_reducible refine gate_dst (N := 2) rfl ?_); refine box_event ?hg (N := 2) ?hd (cs := #[.slice none 0 0, .slice none 0 0, .int .i64 0, .slice none 0 0]) (t := 31) ?hr ?_; (case hd => rfl); (case hg => rfl); (case hr => first | (go_simp; done) | (go_simp; rfl)); intro gb187 hg w45 hbox hb; have BK187 := Aside0.mk (hbox); have GW187 := gE_ HB hg; have GE187 := gE_ HB hg; replace HB := bS_ HB hb; have NB186_187 := nL_ BK186 hg; have NB187_186 := nG_ BK186 hg; replace BK186 := bB_ BK186 hb; clear hb hbox hg; have hnb46 := NB186_187.out; have hnc46 := NB187_186.out; have hcz47_0 : w45.cell? ⟨gb186, 0, none⟩ = some (.slice A0_0 l0_0.length c0_0) := (blk_cell BK186.out 0).trans rfl; have hcz47_1 : w45.cell? ⟨gb186, 1, none⟩ = some (.slice A0_1 l0_1.length c0_1) := (blk_cell BK186.out 1).trans rfl; have hcz47_2 : w45.cell? ⟨gb186, 2, none⟩ = some (.int .i64 a0_2) := (blk_cell BK186.out 2).trans rfl; have hcz47_3 : w45.cell? ⟨gb186, 3, none⟩ = some (.slice A0_3 l0_3.length c0_3) := (blk_cell BK186.out 3).trans rfl; have hfz47_0 := blk_frozen BK186.out 0; have hfz47_1 := blk_frozen BK186.out 1; have hfz47_2 := blk_frozen BK186.out 2; have hfz47_3 := blk_frozen BK186.out 3) | ((with_reducible refine gate_callee (f := 48) rfl ?_); refine gL_ (some 7) Try.func48 #[.agg #[.slice A0_0 l0_0.length c0_0, .slice A0_1 l0_1.length c0_1, .int .i64 a0_2, .slice A0_3 l0_3.length c0_3]] ?_; (with_reducible refine (impl_runOk.calls k _ _ l0_0 _ _ l0_1 a0_2 _ _ l0_3 false _ ?side1 ?side2 ?side3 ?side4 ?side5 ?side6 A2.out).mono ?_); (case side1 => exact cB_ HR0_0 HB); (case side2 => exact HC0_0.out); (case side3 => exact cB_ HR0_1 HB); (case side4 => exact HC0_1.out); (case side5 => exact cB_ HR0_3 HB); (case side6 => exact HC0_3.out); rintro e w48 ⟨rfl, hb⟩; refine ⟨_, rfl, ?_⟩; replace BK186 := bB_ BK186 hb; replace BK187 := bB_ BK187 hb; replace HB := bS_ HB hb; (try clear hb); (try clear hb2); (try clear hk); (try clear hi); have hcz49_0 : w48.cell? ⟨gb187, 0, none⟩ = some (.slice none 0 0) := (blk_cell BK187.out 0).trans rfl; have hcz49_1 : w48.cell? ⟨gb187, 1, none⟩ = some (.slice none 0 0) := (blk_cell BK187.out 1).trans rfl; have hcz49_2 : w48.cell? ⟨gb187, 2, none⟩ = some (.int .i64 0) := (blk_cell BK187.out 2).trans rfl; have hcz49_3 : w48.cell? ⟨gb187, 3, none⟩ = some (.slice none 0 0) := (blk_cell BK187.out 3).trans rfl; have hfz49_0 := blk_frozen BK187.out 0; have hfz49_1 := blk_frozen BK187.out 1; have hfz49_2 := blk_frozen BK187.out 2; have hfz49_3 := blk_frozen BK187.out 3))
  refine bodyPost_ret (results_cell_row rfl _ _ gb187 31 #[.slice none 0 0, .slice none 0 0, .int .i64 0, .slice none 0 0] (0, 0) _ rfl (by (with_reducible repeat (first | refine blk_drewN ?_ _ | refine blk_drew ?_ | refine blk_alloc ?_ _)); refine blk_put (cs := #[.slice none 0 0, .slice none 0 0, .int .i64 0, .slice none 0 0]) ?_ 3 _ rfl; (with_reducible repeat (first | refine blk_drewN ?_ _ | refine blk_drew ?_ | refine blk_alloc ?_ _)); refine blk_put (cs := #[.slice none 0 0, .slice none 0 0, .int .i64 0, .slice none 0 0]) ?_ 2 _ rfl; (with_reducible repeat (first | refine blk_drewN ?_ _ | refine blk_drew ?_ | refine blk_alloc ?_ _)); refine blk_put (cs := #[.slice none 0 0, .slice none 0 0, .int .i64 0, .slice none 0 0]) ?_ 1 _ rfl; (with_reducible repeat (first | refine blk_drewN ?_ _ | refine blk_drew ?_ | refine blk_alloc ?_ _)); refine blk_put (cs := #[.slice none 0 0, .slice none 0 0, .int .i64 0, .slice none 0 0]) ?_ 0 _ rfl; exact bT_ BK187) Try.underlying31 rfl (by kernel_rfl)) rfl ?_
  exact ⟨_, _, _, by first | rfl | (simp [errW_none, errW_some] <;> rfl) | (simp [*, errW_none, errW_some] <;> rfl), by first | exact Kd.S_nil _ _ _ _ _ | exact Kd.N_nil _ _ _ _ _ | exact Kd.V_nil _ _ _ _ _ | exact Kd.Q_nil _ _ _ _ _ | exact Kd.R_nil _ _ _ _ _, by first | exact Kd.R_nil _ _ _ _ _ | exact Kd.N_nil _ _ _ _ _ | exact Kd.V_nil _ _ _ _ _ | exact Kd.Q_nil _ _ _ _ _ | exact Kd.S_nil _ _ _ _ _, by first | exact Kd.R_nil _ _ _ _ _ | exact Kd.N_nil _ _ _ _ _ | exact Kd.V_nil _ _ _ _ _ | exact Kd.Q_nil _ _ _ _ _ | exact Kd.S_nil _ _ _ _ _, sABelo_7⟩

/-! ### laws_eqInt64S: function 37 -/
def laws_eqInt64S.l0 : Nat → List Int → List Int → Int → Option (Bool)
 | 0, _, _, _ => none
 | k + 1, x0, x1, x5 => if x5 < (x0.length : Int) then (if 0 ≤ x5 then (if x5 < (x1.length : Int) then (if (rd x0 x5) = (rd x1 x5) then (laws_eqInt64S.l0 k x0 x1 (wrap64 (x5 + 1))) else (some false)) else (none)) else (none)) else (some true)
def laws_eqInt64S.f (k : Nat) (l0 : List Int) (l1 : List Int) : Option (Bool) := if (l0.length : Int) = (l1.length : Int) then (laws_eqInt64S.l0 k l0 l1 0) else (some false)
theorem laws_eqInt64S.mono_l : ∀ k, (∀ y0 y1 y2, LeO (laws_eqInt64S.l0 k y0 y1 y2) (laws_eqInt64S.l0 (k + 1) y0 y1 y2))
 | 0 => fun _ _ _ r h => by simp [laws_eqInt64S.l0] at h
 | k + 1 => by
  have ih0 := laws_eqInt64S.mono_l k
  ·intro y0 y1 y2
   unfold laws_eqInt64S.l0
   repeat' first
   | (with_reducible exact ih0 _ _ _)
   | (with_reducible exact LeO.refl _)
   | (with_reducible exact LeO.none _)
   | (with_reducible refine LeO.ite ?_ ?_)
   | (with_reducible refine LeO.bind ?_ (fun _ => ?_))
   | exact ih0 _ _ _
   | exact LeO.none _
   | refine LeO.ite ?_ ?_
   | refine LeO.bind ?_ (fun _ => ?_)
theorem laws_eqInt64S.mono : ∀ a0 a1 k, LeO (laws_eqInt64S.f k a0 a1) (laws_eqInt64S.f (k + 1) a0 a1) := by
 intro a0 a1 k
 have ih0 := laws_eqInt64S.mono_l k
 unfold laws_eqInt64S.f
 repeat' first
   | (with_reducible exact ih0 _ _ _)
   | (with_reducible exact LeO.refl _)
   | (with_reducible exact LeO.none _)
   | (with_reducible refine LeO.ite ?_ ?_)
   | (with_reducible refine LeO.bind ?_ (fun _ => ?_))
   | exact ih0 _ _ _
   | exact LeO.none _
   | refine LeO.ite ?_ ?_
   | refine LeO.bind ?_ (fun _ => ?_)
set_option maxHeartbeats 8000000 in
set_option maxRecDepth 100000 in
theorem laws_eqInt64S.calls (k : Nat) (A0 : Option Addr) (c0 : Nat) (l0 : List Int) (A1 : Option Addr) (c1 : Nat) (l1 : List Int) (r : Bool) (w : World) (hr0 : Kd.C (Kd.int .i64) w A0 l0.length l0) (hc0 : l0.length ≤ c0) (hr1 : Kd.C (Kd.int .i64) w A1 l1.length l1) (hc1 : l1.length ≤ c1) (h : laws_eqInt64S.f k l0 l1 = some r) :
  Calls Try.prog 37 #[.slice A0 l0.length c0, .slice A1 l1.length c1] w fun e w' => e = .returned (.bool r) ∧ Drawn0 w w' := by
 have HR0 := Aside0.mk hr0; have HC0 := Aside0.mk hc0; clear hr0 hc0; have HR1 := Aside0.mk hr1; have HC1 := Aside0.mk hc1; clear hr1 hc1
 have H : (if (l0.length : Int) = (l1.length : Int) then (laws_eqInt64S.l0 k l0 l1 0) else (some false)) = some r := h
 clear h
 by_cases c3 : (l0.length : Int) = (l1.length : Int)
 ·rw [if_pos c3] at H
  have c3b0 : ((l0.length : Int) == (l1.length : Int)) = true := beq_iff_eq.mpr c3
  have c3b1 : ((l0.length : Int) != (l1.length : Int)) = false := bne_eq_false_iff_eq.mpr c3
  have c3b2 : (l0.length == l1.length) = true := by first | simpa using c3 | (simp at c3 ⊢; omega)
  clear c3; have H' := Aside0.mk H; clear H
  go_enter Try.func37, Try.ntmps37
  go_wp2
  repeat (go_quiet (fail); try go_wp2)
  go_loopg [5] k (fun kq v5 w' => ∃ (x5_1 : Int), v5 = .int .i64 x5_1 ∧ Aside0 (laws_eqInt64S.l0 kq l0 l1 x5_1 = some r) ∧ Aside0 (kq ≤ k) ∧ Drawn0 w w')
  case atStart => exact ⟨(0), (by first | rfl | (simp; done) | (simp [*]; done)), H', ⟨Nat.le_refl _⟩, by repeat (first | exact Drawn0.refl _ | apply Drawn0.step)⟩
  case round =>
   clear H'; (try clear c1); (try clear p2); (try clear c3); (try clear c3b0); (try clear c3b1); (try clear c3b2)
   obtain ⟨x5_1, rfl, HA, HK1, ⟨m1, rfl⟩⟩ := hrel
   cases gk with
   | zero => exact absurd HA.out (by simp [laws_eqInt64S.l0])
   | succ k1 =>
    have H := HA.out; clear HA
    simp only [laws_eqInt64S.l0] at H
    by_cases c4 : x5_1 < (l0.length : Int)
    ·rw [if_pos c4] at H
     have c4b0 : decide (x5_1 < (l0.length : Int)) = true := decide_eq_true c4
     clear c4
     obtain ⟨c5, H⟩ := ifS_ H
     have c5b0 : decide (0 ≤ x5_1) = true := decide_eq_true c5
     clear c5
     obtain ⟨c6, H⟩ := ifS_ H
     have c6b0 : decide (x5_1 < (l1.length : Int)) = true := decide_eq_true c6
     clear c6
     by_cases c7 : (rd l0 x5_1) = (rd l1 x5_1)
     ·rw [if_pos c7] at H
      have c7b0 : ((rd l0 x5_1) == (rd l1 x5_1)) = true := beq_iff_eq.mpr c7
      have c7b1 : ((rd l0 x5_1) != (rd l1 x5_1)) = false := bne_eq_false_iff_eq.mpr c7
      clear c7; have H' := Aside0.mk H; clear H
      have p203 : 0 ≤ (x5_1 : Int) := of_decide_eq_true (by first | (with_reducible assumption) | assumption)
      have q203 : x5_1 < (l0.length : Int) := of_decide_eq_true (by first | (with_reducible assumption) | assumption)
      obtain ⟨ad203, e203, hx203_0⟩ := Kd.at_int HR0.out x5_1 p203 q203
      cases e203
      replace p203 := eq_true p203; replace q203 := eq_true q203
      have p204 : 0 ≤ (x5_1 : Int) := of_decide_eq_true (by first | (with_reducible assumption) | assumption)
      have q204 : x5_1 < (l1.length : Int) := of_decide_eq_true (by first | (with_reducible assumption) | assumption)
      obtain ⟨ad204, e204, hx204_0⟩ := Kd.at_int HR1.out x5_1 p204 q204
      cases e204
      replace p204 := eq_true p204; replace q204 := eq_true q204
      go_wp2
      repeat (go_quiet (fail); try go_wp2)
      go_roundg k1
      case measure => have := HK1.out; omega
      case rel => exact ⟨(wrap64 (x5_1 + 1)), (by first | rfl | (simp; done) | (simp [*]; done)), H', ⟨by have := HK1.out; omega⟩, by repeat (first | exact Drawn0.refl _ | apply Drawn0.step)⟩
     ·rw [if_neg c7] at H
      have c7b0 : ((rd l0 x5_1) == (rd l1 x5_1)) = false := beq_eq_false_iff_ne.mpr c7
      have c7b1 : ((rd l0 x5_1) != (rd l1 x5_1)) = true := bne_iff_ne.mpr c7
      obtain rfl := Option.some.inj H
      have p203 : 0 ≤ (x5_1 : Int) := of_decide_eq_true (by first | (with_reducible assumption) | assumption)
      have q203 : x5_1 < (l0.length : Int) := of_decide_eq_true (by first | (with_reducible assumption) | assumption)
      obtain ⟨ad203, e203, hx203_0⟩ := Kd.at_int HR0.out x5_1 p203 q203
      cases e203
      replace p203 := eq_true p203; replace q203 := eq_true q203
      have p204 : 0 ≤ (x5_1 : Int) := of_decide_eq_true (by first | (with_reducible assumption) | assumption)
      have q204 : x5_1 < (l1.length : Int) := of_decide_eq_true (by first | (with_reducible assumption) | assumption)
      obtain ⟨ad204, e204, hx204_0⟩ := Kd.at_int HR1.out x5_1 p204 q204
      cases e204
      replace p204 := eq_true p204; replace q204 := eq_true q204
      go_wp2
      repeat (go_quiet (fail); try go_wp2)
      go_ret
      exact ⟨by first | rfl | (simp; done) | (simp [*]; done), by repeat (first | exact Drawn0.refl _ | apply Drawn0.step)⟩
    ·rw [if_neg c4] at H
     have c4b0 : decide (x5_1 < (l0.length : Int)) = false := decide_eq_false c4
     clear c4
     obtain rfl := Option.some.inj H
     go_wp2
     repeat (go_quiet (fail); try go_wp2)
     go_ret
     exact ⟨by first | rfl | (simp; done) | (simp [*]; done), by repeat (first | exact Drawn0.refl _ | apply Drawn0.step)⟩
 ·rw [if_neg c3] at H
  have c3b0 : ((l0.length : Int) == (l1.length : Int)) = false := beq_eq_false_iff_ne.mpr c3
  have c3b1 : ((l0.length : Int) != (l1.length : Int)) = true := bne_iff_ne.mpr c3
  have c3b2 : (l0.length == l1.length) = false := by first | simpa using c3 | (simp at c3 ⊢; omega)
  obtain rfl := Option.some.inj H
  go_enter Try.func37, Try.ntmps37
  go_wp2
  repeat (go_quiet (fail); try go_wp2)
  go_ret
  exact ⟨by first | rfl | (simp; done) | (simp [*]; done), by repeat (first | exact Drawn0.refl _ | apply Drawn0.step)⟩

end Go.Proofs.Ytjoghfehmhapbaa.QFnExactCrashRun
