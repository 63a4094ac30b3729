-- Written by a program of this session out of the printer's texts and contracts of its own.
import Derived.Test.YtjoghfehmhapbaaSq
import Derived.Test.YtjoghfehmhapbaaQFnExactStartTasksx0
import Derived.Test.YtjoghfehmhapbaaQFnExactStartTasksx6
namespace Go.Proofs.Ytjoghfehmhapbaa.QFnExactStartTasks
open Go.RowKit Go.Proofs.YtjoghfehmhapbaaW.PrintWords Go.Proofs.YtjoghfehmhapbaaW.PrintLast Go.Proofs.YtjoghfehmhapbaaW.PrintMore Go.Proofs.Ytjoghfehmhapbaa.Sq
attribute [local go_sem] max2_int min2_int max_two min_two max_three min_three max_four min_four   -- for this text's walks alone
set_option linter.unusedVariables false
set_option linter.unusedSimpArgs false
theorem sABelo_7 {b : Nat} {w W : World} (h : Below b w W := by repeat (first | (with_reducible first | exact Aside0.out (by assumption) | apply below_alloc | apply pw_below_drewN | apply below_drew1 | refine below_set ?_ (Aside0.out (by assumption))) | exact Aside0.out (by assumption))) : Below b w W := h

/-! ### impl_copySuite: function 47 -/
def impl_copySuite.l0 : Nat → List (S39) → Int → Int → List (S39) → List Int → Option ((List (S39)) × List Int)
 | 0, _, _, _, _, _ => none
 | k + 1, x11, x12, x13, x167000, x167001 => if x13 < x12 then (if 0 ≤ x13 then (if x13 < (x11.length : Int) then ((slices_Clone_int64_int64.f ((rd_T39 x11 x13).f0)).bind fun t169 => (if x167000.length < 2932031007402 then (impl_copySuite.l0 k x11 x12 (wrap64 (x13 + 1)) (x167000 ++ [(⟨t169, (rd_T39 x11 x13).f1, (rd_T39 x11 x13).f2, (rd_T39 x11 x13).f3⟩ : S39)]) x167001) else (none))) else (none)) else (none)) else (some (x167000, x167001))
def impl_copySuite.f (k : Nat) (l0_0 : List (S39)) (l0_1 : List Int) : Option ((List (S39)) × List Int) := (slices_Clone_int64_int64.f l0_1).bind fun t163 => (impl_copySuite.l0 k l0_0 (l0_0.length : Int) 0 ([] : List (S39)) t163)
theorem impl_copySuite.mono_l : ∀ k, (∀ y0 y1 y2 y3 y4, LeO (impl_copySuite.l0 k y0 y1 y2 y3 y4) (impl_copySuite.l0 (k + 1) y0 y1 y2 y3 y4))
 | 0 => fun _ _ _ _ _ r h => by simp [impl_copySuite.l0] at h
 | k + 1 => by
  have ih0 := impl_copySuite.mono_l k
  ·intro y0 y1 y2 y3 y4
   unfold impl_copySuite.l0
   repeat' first
   | (with_reducible exact ih0 _ _ _ _ _)
   | (with_reducible exact LeO.refl _)
   | (with_reducible exact LeO.none _)
   | (with_reducible refine LeO.ite ?_ ?_)
   | (with_reducible refine LeO.bind ?_ (fun _ => ?_))
   | exact ih0 _ _ _ _ _
   | exact LeO.none _
   | refine LeO.ite ?_ ?_
   | refine LeO.bind ?_ (fun _ => ?_)
theorem impl_copySuite.mono : ∀ a0 a1 k, LeO (impl_copySuite.f k a0 a1) (impl_copySuite.f (k + 1) a0 a1) := by
 intro a0 a1 k
 have ih0 := impl_copySuite.mono_l k
 unfold impl_copySuite.f
 repeat' first
   | (with_reducible exact ih0 _ _ _ _ _)
   | (with_reducible exact LeO.refl _)
   | (with_reducible exact LeO.none _)
   | (with_reducible refine LeO.ite ?_ ?_)
   | (with_reducible refine LeO.bind ?_ (fun _ => ?_))
   | exact ih0 _ _ _ _ _
   | exact LeO.none _
   | refine LeO.ite ?_ ?_
   | refine LeO.bind ?_ (fun _ => ?_)
set_option maxHeartbeats 8000000 in
set_option maxRecDepth 100000 in
theorem impl_copySuite.calls (k : Nat) (A0_0 : Option Addr) (c0_0 : Nat) (l0_0 : List (S39)) (A0_1 : Option Addr) (c0_1 : Nat) (l0_1 : List Int) (r1 : List (S39)) (r2 : List Int) (w : World) (hr0_0 : Kd.C k39 w A0_0 l0_0.length l0_0) (hc0_0 : l0_0.length ≤ c0_0) (hr0_1 : Kd.C (Kd.int .i64) w A0_1 l0_1.length l0_1) (hc0_1 : l0_1.length ≤ c0_1) (h : impl_copySuite.f k l0_0 l0_1 = some (r1, r2)) :
  Calls Try.prog 47 #[.agg #[.slice A0_0 l0_0.length c0_0, .slice A0_1 l0_1.length c0_1]] w fun e w' => ∃ v0_ v1_ : Value, e = .returned (.agg #[v0_, v1_]) ∧ Kd.S k39 39 w' w.heap.size (fun k_ => some k_ ≠ (v1_ : Value).ownBlock) v0_ r1 ∧ Kd.R (Kd.int .i64) 2 w' w.heap.size (fun _ => True) v1_ r2 ∧ Below w.heap.size w w' := by
 have hu27 := Try.underlying27; have hu39 := Try.underlying39; have HR0_0 := Aside0.mk hr0_0; have HC0_0 := Aside0.mk hc0_0; clear hr0_0 hc0_0; have HR0_1 := Aside0.mk hr0_1; have HC0_1 := Aside0.mk hc0_1; clear hr0_1 hc0_1
 have HB := Aside0.mk (Below.refl w.heap.size w)
 have H : ((slices_Clone_int64_int64.f l0_1).bind fun t163 => (impl_copySuite.l0 k l0_0 (l0_0.length : Int) 0 ([] : List (S39)) t163)) = some (r1, r2) := h
 clear h; replace H := Option.bind_eq_some_iff.mp H
 obtain ⟨t163, A20, H⟩ := H
 replace H : (impl_copySuite.l0 k l0_0 (l0_0.length : Int) 0 ([] : List (S39)) t163) = some (r1, r2) := H
 have A2 := Aside0.mk A20; clear A20; have H' := Aside0.mk H; clear H
 go_enter Try.func47, Try.ntmps47
 go_wp2_with (first | ((with_reducible refine gate_dst (N := 1) rfl ?_); refine box_event ?hg (N := 1) ?hd (cs := #[.slice A0_0 l0_0.length c0_0, .slice A0_1 l0_1.length c0_1]) (t := 27) ?hr ?_; (case hd => rfl); (case hg => rfl); (case hr => first | (go_simp; done) | (go_simp; rfl)); intro gb161 hg w3 hbox hb; have BK161 := Aside0.mk (hbox); have GW161 := gE_ HB hg; have GE161 := gE_ HB hg; replace HB := bS_ HB hb; clear hb hbox hg) | ((with_reducible refine gate_dst (N := 2) rfl ?_); refine box_event ?hg (N := 2) ?hd (cs := #[.slice none 0 0, .slice none 0 0]) (t := 27) ?hr ?_; (case hd => rfl); (case hg => rfl); (case hr => first | (go_simp; done) | (go_simp; rfl)); intro gb162 hg w4 hbox hb; have BK162 := Aside0.mk (hbox); have GW162 := gE_ HB hg; have GE162 := gE_ HB hg; replace HB := bS_ HB hb; have NB161_162 := nL_ BK161 hg; have NB162_161 := nG_ BK161 hg; replace BK161 := bB_ BK161 hb; clear hb hbox hg; have hnb5 := NB161_162.out; have hnc5 := NB162_161.out; obtain ⟨hcz6_0, hcz6_1, hfz6_0, hfz6_1⟩ := cf2_ BK161) | ((with_reducible refine gate_callee (f := 79) rfl ?_); refine gL_ (some 8) Try.func79 #[.slice A0_1 l0_1.length c0_1] ?_; (with_reducible refine (slices_Clone_int64_int64.calls _ _ l0_1 t163 _ ?side1 ?side2 A2.out).mono ?_); (case side1 => exact cB_ HR0_1 HB); (case side2 => exact HC0_1.out); rintro e w7 ⟨v164, rfl, ho0, hb⟩; refine ⟨_, rfl, ?_⟩; have HO165 := rL_ ho0 HB; replace BK161 := bB_ BK161 hb; replace BK162 := bB_ BK162 hb; replace HB := bS_ HB hb; (try clear hb); (try clear ho0); obtain ⟨Ao8, co8, eo8⟩ := Kd.R_slice HO165.out; subst eo8) | ((with_reducible refine gate_dst (N := 3) rfl ?_); refine box_event ?hg (N := 3) ?hd (cs := #[.slice none 0 0, .slice none 0 0]) (t := 27) ?hr ?_; (case hd => rfl); (case hg => rfl); (case hr => first | (go_simp; done) | (go_simp; rfl)); intro gb166 hg w9 hbox hb; replace HO165 := rB_ HO165 hb; have BK166 := Aside0.mk (hbox); have GW166 := gE_ HB hg; have GE166 := gE_ HB hg; replace HB := bS_ HB hb; have NB161_166 := nL_ BK161 hg; have NB166_161 := nG_ BK161 hg; replace BK161 := bB_ BK161 hb; have NB162_166 := nL_ BK162 hg; have NB166_162 := nG_ BK162 hg; replace BK162 := bB_ BK162 hb; clear hb hbox hg; have hnb10 := NB166_161.out; have hnc10 := NB161_166.out; have hnb11 := NB166_162.out; have hnc11 := NB162_166.out; obtain ⟨hcz12_0, hcz12_1, hfz12_0, hfz12_1⟩ := cf2_ BK166; obtain ⟨hcz13_0, hcz13_1, hfz13_0, hfz13_1⟩ := cf2_ BK161))
 go_loopg [13] k (fun kq v13 w' => ∃ (x13_1 : Int) (x167000_1 : List (S39)) (u167000 : Value), v13 = .int .i64 x13_1 ∧ Aside0 (impl_copySuite.l0 kq l0_0 (l0_0.length : Int) x13_1 x167000_1 t163 = some (r1, r2)) ∧ Aside0 (kq ≤ k) ∧ Aside0 (Kd.S k39 39 w' w.heap.size (fun k_ => some k_ ≠ ((.slice Ao8 t163.length co8) : Value).ownBlock) u167000 x167000_1) ∧ Aside0 (Kd.R (Kd.int .i64) 2 w' w.heap.size (fun _ => True) (.slice Ao8 t163.length co8) t163) ∧ Aside0 (w'.heap[gb161]? = some (.cells #[(.slice A0_0 l0_0.length c0_0), (.slice A0_1 l0_1.length c0_1)] 27 (0, 0))) ∧ Aside0 (w'.heap[gb162]? = some (.cells #[(.slice none 0 0), (.slice none 0 0)] 27 (0, 0))) ∧ Aside0 (w'.heap[gb166]? = some (.cells #[u167000, (.slice Ao8 t163.length co8)] 27 (0, 0))) ∧ Aside0 (Below w.heap.size w w'))
 case atStart => exact ⟨(0), (([] : List (S39))), (.slice none 0 0), (by first | rfl | (simp; done) | (simp [*]; done)), H', ⟨Nat.le_refl _⟩, ⟨by first | exact Kd.S_nil _ _ _ _ _ | exact Kd.N_nil _ _ _ _ _ | exact Kd.V_nil _ _ _ _ _ | exact Kd.Q_nil _ _ _ _ _ | exact Kd.R_nil _ _ _ _ _⟩, ⟨rFM_ HO165 BK166⟩, ⟨bF_ BK161 NB161_166⟩, ⟨bF_ BK162 NB162_166⟩, ⟨bP_ BK166⟩, ⟨sABelo_7⟩⟩
 case round =>
  clear H'; (try clear hcz12_0); (try clear hcz12_1); (try clear hcz13_0); (try clear hcz13_1); (try clear hcz6_0); (try clear hcz6_1); (try clear hfz12_0); (try clear hfz12_1); (try clear hfz13_0); (try clear hfz13_1); (try clear hfz6_0); (try clear hfz6_1)
  obtain ⟨x13_1, x167000_1, u167000, rfl, HA, HK1, HO_167000, HO_167001, BK161, BK162, BK166, HB⟩ := hrel
  cases gk with
  | zero => exact absurd HA.out (by simp [impl_copySuite.l0])
  | succ k1 =>
   have H := HA.out; clear HA
   simp only [impl_copySuite.l0] at H
   by_cases c14 : x13_1 < (l0_0.length : Int)
   ·rw [if_pos c14] at H
    have c14b0 := decide_eq_true c14
    clear c14
    obtain ⟨c15, H⟩ := ifS_ H
    have c15b0 : decide (0 ≤ x13_1) = true := decide_eq_true c15
    clear c15
    obtain ⟨c16, H⟩ := ifS_ H
    have c16b0 : decide (x13_1 < (l0_0.length : Int)) = true := decide_eq_true c16
    clear c16; replace H := Option.bind_eq_some_iff.mp H
    obtain ⟨t169, A170, H⟩ := H
    replace H : (if x167000_1.length < 2932031007402 then (impl_copySuite.l0 k1 l0_0 (l0_0.length : Int) (wrap64 (x13_1 + 1)) (x167000_1 ++ [(⟨t169, (rd_T39 l0_0 x13_1).f1, (rd_T39 l0_0 x13_1).f2, (rd_T39 l0_0 x13_1).f3⟩ : S39)]) t163) else (none)) = some (r1, r2) := H
    have A17 := Aside0.mk A170; clear A170
    obtain ⟨c18, H⟩ := ifS_ H
    have LMc18 := Aside0.mk c18; clear c18
    obtain ⟨y172, hy172⟩ : ∃ y_ : List (S39), y_ = (x167000_1 ++ [(⟨t169, (rd_T39 l0_0 x13_1).f1, (rd_T39 l0_0 x13_1).f2, (rd_T39 l0_0 x13_1).f3⟩ : S39)]) := ⟨_, rfl⟩
    replace H : (impl_copySuite.l0 k1 l0_0 (l0_0.length : Int) (wrap64 (x13_1 + 1)) y172 t163) = some (r1, r2) := by first | (rw [hy172]; with_reducible exact H) | (have H2_ := (Option.bind_some _ _).symm.trans H; rw [hy172]; with_reducible exact H2_) | (have H2_ := (Option.bind_some _ _).symm.trans H; with_reducible exact H2_) | with_reducible exact H | (rw [hy172]; exact H) | exact H
    have Ny172 := Aside0.mk hy172; clear hy172; have H' := Aside0.mk H; clear H
    have p167 : 0 ≤ (x13_1 : Int) := dA_
    have q167 : x13_1 < (l0_0.length : Int) := dA_
    obtain ⟨ad167, A167_0, c167_0, e167, hx167_0, hx167_1, hx167_2, hx167_3, hl167_0, hi167_0⟩ := at_T39 HR0_0.out x13_1 p167 q167
    cases e167
    replace hx167_0 := hX_ HB hx167_0
    replace hx167_1 := hX_ HB hx167_1
    replace hx167_2 := hX_ HB hx167_2
    replace hx167_3 := hX_ HB hx167_3
    have HR167_0 := Aside0.mk hi167_0; have HC167_0 := Aside0.mk hl167_0; clear hi167_0 hl167_0; replace p167 := eq_true p167; replace q167 := eq_true q167
    go_wp2_with (first | ((with_reducible refine gate_dst (N := 5) rfl ?_); refine box_event ?hg (N := 5) ?hd (cs := #[.slice none 0 0, .int .i64 0, .int .i64 0, .int .i64 0]) (t := 39) ?hr ?_; (case hd => rfl); (case hg => rfl); (case hr => first | (go_simp; done) | (go_simp; rfl)); intro gb168 hg w19 hbox hb; replace HO_167000 := Aside0.mk (Kd.S_below (Kd.S_elderB (sT_ HO_167000) gb168 (Nat.le_of_eq hg.symm)) hb); replace HO_167001 := rB_ HO_167001 hb; have BK168 := Aside0.mk (hbox); have GW168 := gE_ HB hg; have GE168 := gE_ HB hg; replace HB := bS_ HB hb; have NB161_168 := nL_ BK161 hg; have NB168_161 := nG_ BK161 hg; replace BK161 := bB_ BK161 hb; have NB162_168 := nL_ BK162 hg; have NB168_162 := nG_ BK162 hg; replace BK162 := bB_ BK162 hb; have NB166_168 := nL_ BK166 hg; have NB168_166 := nG_ BK166 hg; replace BK166 := bB_ BK166 hb; clear hb hbox hg; have hnb20 := NB168_161.out; have hnc20 := NB161_168.out; have hnb21 := NB168_162.out; have hnc21 := NB162_168.out; have hnb22 := NB168_166.out; have hnc22 := NB166_168.out; obtain ⟨hcz23_0, hcz23_1, hcz23_2, hcz23_3, hfz23_0, hfz23_1, hfz23_2, hfz23_3⟩ := cf4_ BK168) | ((with_reducible refine gate_callee (f := 79) rfl ?_); refine gL_ (some 19) Try.func79 #[.slice A167_0 ((rd_T39 l0_0 x13_1).f0).length c167_0] ?_; (with_reducible refine (slices_Clone_int64_int64.calls _ _ ((rd_T39 l0_0 x13_1).f0) t169 _ ?side1 ?side2 A17.out).mono ?_); (case side1 => exact Kd.C_below HR167_0.out sABelo_7); (case side2 => exact HC167_0.out); rintro e w24 ⟨v170, rfl, ho0, hb⟩; refine ⟨_, rfl, ?_⟩; replace HO_167000 := Aside0.mk (Kd.S_elder' (sFN0_ HO_167000) (Kd.R_base ho0) hb); have HO171 := Aside0.mk (Kd.R_lower (rN_ ho0 HO_167001) (below_size sABelo_7)); replace HO_167001 := rEF_ HO_167001 BK168 ho0 hb; replace BK161 := bBF_ BK161 NB161_168 hb; replace BK162 := bBF_ BK162 NB162_168 hb; replace BK166 := bBF_ BK166 NB166_168 hb; replace BK168 := Aside0.mk (blk_below (g := gb168) (o := .cells #[.slice A167_0 ((rd_T39 l0_0 x13_1).f0).length c167_0, .int .i64 ((rd_T39 l0_0 x13_1).f1), .int .i64 ((rd_T39 l0_0 x13_1).f2), .int .i64 ((rd_T39 l0_0 x13_1).f3)] 39 (0, 0)) (bP_ BK168) hb); replace HB := Aside0.mk (below_step sABelo_7 hb); (try clear hb); (try clear ho0); obtain ⟨Ao25, co25, eo25⟩ := Kd.R_slice HO171.out; subst eo25; obtain ⟨hcz26_0, hcz26_1, hcz26_2, hcz26_3, hfz26_0, hfz26_1, hfz26_2, hfz26_3⟩ := cf4_ BK168) | ((with_reducible refine gate_store (t := 25) (p := 20) rfl ?_); refine store_event (t := 25) (p := 20) (v := ?vo_w27) (w1 := (w24.setCell ⟨gb168, 0, none⟩ (.slice Ao25 t169.length co25))) ?hg ?ho ?hn ?hr ?_; (case ho => rfl); (case hg => rfl); (case hn => rfl); (case hr => first | (go_simp; done) | (go_simp; rfl)); intro w27 hw; have n0_ : Aside0 (Kd.S k39 39 w27 w.heap.size (fun k_ => some k_ ≠ (.slice Ao8 t163.length co8 : Value).ownBlock ∧ some k_ ≠ (.slice Ao25 t169.length co25 : Value).ownBlock ∧ k_ ≠ gb168) u167000 x167000_1) := ⟨(by rw [hw]; exact (by (with_reducible repeat (first | apply Kd.S_alloc | apply Kd.S_drewN | apply Kd.S_drew)); exact Kd.S_mono (Kd.S_far (p := ⟨gb168, 0, none⟩) (Kd.S_mono HO_167000.out (fun k_ hk => (⟨hk, hk.1.2⟩ : _ ∧ k_ ≠ gb168))) (fun _ hk => hk.2) (.slice Ao25 t169.length co25)) (fun _ hk => ⟨hk.1.1.1, ⟨hk.1.2, hk.1.1.2⟩⟩)))⟩; have n1_ : Aside0 (Kd.R (Kd.int .i64) 2 w27 w.heap.size (fun k_ => some k_ ≠ (.slice Ao25 t169.length co25 : Value).ownBlock) (.slice Ao8 t163.length co8) t163) := ⟨(by rw [hw]; exact (by (with_reducible repeat (first | apply Kd.R_alloc | apply Kd.R_drewN | apply Kd.R_drew)); exact Kd.R_mono (Kd.R_far (p := ⟨gb168, 0, none⟩) (Kd.R_types HO_167001.out BK168.out (by decide)) (fun _ hk => hk.2) (.slice Ao25 t169.length co25)) (fun _ hk => hk.1.2)))⟩; have n2_ : Aside0 (Kd.R (Kd.int .i64) 2 w27 w.heap.size (fun k_ => some k_ ≠ (.slice Ao8 t163.length co8 : Value).ownBlock) (.slice Ao25 t169.length co25) t169) := ⟨(by rw [hw]; exact (by (with_reducible repeat (first | apply Kd.R_alloc | apply Kd.R_drewN | apply Kd.R_drew)); exact Kd.R_mono (Kd.R_far (p := ⟨gb168, 0, none⟩) (Kd.R_types HO171.out BK168.out (by decide)) (fun _ hk => hk.2) (.slice Ao25 t169.length co25)) (fun _ hk => hk.1.2)))⟩; have n3_ : Aside0 (w27.heap[gb161]? = some (.cells #[.slice (some ad167) l0_0.length c0_0, .slice A0_1 l0_1.length c0_1] 27 (0, 0))) := ⟨(by rw [hw]; exact (bF_ BK161 NB161_168))⟩; have n4_ : Aside0 (w27.heap[gb162]? = some (.cells #[.slice none 0 0, .slice none 0 0] 27 (0, 0))) := ⟨(by rw [hw]; exact (bF_ BK162 NB162_168))⟩; have n5_ : Aside0 (w27.heap[gb166]? = some (.cells #[u167000, .slice Ao8 t163.length co8] 27 (0, 0))) := ⟨(by rw [hw]; exact (bF_ BK166 NB166_168))⟩; have n6_ : Aside0 (w27.heap[gb168]? = some (.cells #[.slice Ao25 t169.length co25, .int .i64 ((rd_T39 l0_0 x13_1).f1), .int .i64 ((rd_T39 l0_0 x13_1).f2), .int .i64 ((rd_T39 l0_0 x13_1).f3)] 39 (0, 0))) := ⟨(by rw [hw]; exact (bP_ BK168))⟩; have n7_ : Aside0 (Below w.heap.size w w27) := ⟨(by rw [hw]; exact sABelo_7)⟩; clear hw; clear HO_167000; clear HO_167001; clear HO171; clear BK161; clear BK162; clear BK166; clear BK168; clear HB; have HO_167000 := n0_; have HO_167001 := n1_; have HO171 := n2_; have BK161 := n3_; have BK162 := n4_; have BK166 := n5_; have BK168 := n6_; have HB := n7_; clear n0_ n1_ n2_ n3_ n4_ n5_ n6_ n7_; have hnb28 := NB166_161.out; have hnc28 := NB161_166.out; have hnb29 := NB166_162.out; have hnc29 := NB162_166.out; obtain ⟨hcz30_0, hcz30_1, hfz30_0, hfz30_1⟩ := cf2_ BK166; obtain ⟨hcz31_0, hcz31_1, hcz31_2, hcz31_3, hfz31_0, hfz31_1, hfz31_2, hfz31_3⟩ := cf4_ BK168) | ((with_reducible refine gate_builtin (b := .append) (xs := #[.tmp 22, .tmp 24]) rfl ?_); at_builtin; refine Kd.S_append k39 (w0 := w) w.heap.size rfl (.tmp 22) (.tmp 24) 24 39 (.agg #[(.slice none 0 0), (.int .i64 0), (.int .i64 0), (.int .i64 0)]) 48 rfl Try.underlying24 info39 rfl (by decide) (by omega) u167000 x167000_1 (⟨t169, (rd_T39 l0_0 x13_1).f1, (rd_T39 l0_0 x13_1).f2, (rd_T39 l0_0 x13_1).f3⟩ : S39) [.slice Ao25 t169.length co25, .int .i64 ((rd_T39 l0_0 x13_1).f1), .int .i64 ((rd_T39 l0_0 x13_1).f2), .int .i64 ((rd_T39 l0_0 x13_1).f3)] (fun k_ => some k_ ≠ (.slice Ao8 t163.length co8 : Value).ownBlock ∧ k_ ≠ gb168) (fun k_ => some k_ = (.slice Ao25 t169.length co25 : Value).ownBlock) rfl rfl ?aP (fun k_ hk_ => ((Kd.R_mono (ok' := fun k_ => ((fun k_ => some k_ ≠ (.slice Ao8 t163.length co8 : Value).ownBlock ∧ k_ ≠ gb168)) k_ ∧ some k_ ≠ (u167000 : Value).ownBlock) (Kd.R_types (Kd.R_apart' (HO171.out) (Kd.S_typed HO_167000.out) (by decide)) BK168.out (by decide)) (fun k_ hk => ⟨⟨hk.1.1, hk.2⟩, hk.1.2⟩))).1 k_ hk_.symm) ?aF ?aO ?aB ?aS ?aL ?_; (case aP => exact k39_mkM _ _ _ (⟨t169, (rd_T39 l0_0 x13_1).f1, (rd_T39 l0_0 x13_1).f2, (rd_T39 l0_0 x13_1).f3⟩ : S39) (Kd.R_mono (Kd.R_tight rfl (Kd.R_mono (ok' := fun k_ => ((fun k_ => some k_ ≠ (.slice Ao8 t163.length co8 : Value).ownBlock ∧ k_ ≠ gb168)) k_ ∧ some k_ ≠ (u167000 : Value).ownBlock) (Kd.R_types (Kd.R_apart' (HO171.out) (Kd.S_typed HO_167000.out) (by decide)) BK168.out (by decide)) (fun k_ hk => ⟨⟨hk.1.1, hk.2⟩, hk.1.2⟩))) (fun _ h_ => h_))); (case aB => exact sABelo_7); (case aF => exact (fun k_ hk => ⟨Kd.fresh' (rLt_ HO_167001) k_ hk, Kd.freshB (g := gb168) (o := .cells #[.slice Ao25 t169.length co25, .int .i64 ((rd_T39 l0_0 x13_1).f1), .int .i64 ((rd_T39 l0_0 x13_1).f2), .int .i64 ((rd_T39 l0_0 x13_1).f3)] 39 (0, 0)) (bT_ BK168) k_ hk⟩)); (case aO => exact (by (with_reducible repeat (first | apply Kd.S_alloc | apply Kd.S_drewN | apply Kd.S_drew)); exact Kd.S_mono HO_167000.out (fun k_ hk => ⟨⟨hk.1, hk.2.2⟩, fun e_ => hk.2.1 e_⟩))); (case aS => exact (below_size sABelo_7)); (case aL => have := LMc18.out; omega); intro v173 w32 ho hb hg hat; rw [← Ny172.out] at ho; replace HO_167001 := Aside0.mk (Kd.R_over' (rT_ HO_167001) (Kd.S_typed (sT_ HO_167000)) (by decide) hg); replace BK161 := Aside0.mk (blk_grown (g := gb161) (o := .cells #[.slice (some ad167) l0_0.length c0_0, .slice A0_1 l0_1.length c0_1] 27 (0, 0)) (bT_ BK161) hg (Kd.S_ne HO_167000.out BK161.out (by decide))); replace BK162 := Aside0.mk (blk_grown (g := gb162) (o := .cells #[.slice none 0 0, .slice none 0 0] 27 (0, 0)) (bT_ BK162) hg (Kd.S_ne HO_167000.out BK162.out (by decide))); replace BK166 := Aside0.mk (blk_grown (g := gb166) (o := .cells #[u167000, .slice Ao8 t163.length co8] 27 (0, 0)) (bT_ BK166) hg (Kd.S_ne HO_167000.out BK166.out (by decide))); replace BK168 := Aside0.mk (blk_grown (g := gb168) (o := .cells #[.slice Ao25 t169.length co25, .int .i64 ((rd_T39 l0_0 x13_1).f1), .int .i64 ((rd_T39 l0_0 x13_1).f2), .int .i64 ((rd_T39 l0_0 x13_1).f3)] 39 (0, 0)) (bT_ BK168) hg (Kd.S_away HO_167000.out (fun _ hk => hk.2.2))); replace HB := Aside0.mk (hb); have HO174 := Aside0.mk (ho); clear HO_167000 HO171; clear ho hb hg hat; obtain ⟨Ao33, co33, eo33⟩ := Kd.S_slice HO174.out; subst eo33; obtain ⟨hcz34_0, hcz34_1, hfz34_0, hfz34_1⟩ := cf2_ BK166))
    go_roundg k1
    case measure => have := HK1.out; omega
    case rel => exact ⟨(wrap64 (x13_1 + 1)), (y172), (.slice Ao33 y172.length co33), (by first | rfl | (simp; done) | (simp [*]; done)), H', ⟨by have := HK1.out; omega⟩, ⟨sFM_ HO174 BK166⟩, ⟨rFM_ HO_167001 BK166⟩, ⟨bF_ BK161 NB161_166⟩, ⟨bF_ BK162 NB162_166⟩, ⟨bP_ BK166⟩, ⟨sABelo_7⟩⟩
   ·rw [if_neg c14] at H
    have c14b0 := decide_eq_false c14
    clear c14
    simp only [Option.some.injEq, Prod.mk.injEq] at H
    obtain ⟨rfl, rfl⟩ := H
    have hnb35 := NB166_161.out; have hnc35 := NB161_166.out; have hnb36 := NB166_162.out; have hnc36 := NB162_166.out
    obtain ⟨hcz37_0, hcz37_1, hfz37_0, hfz37_1⟩ := cf2_ BK166
    obtain ⟨Ao38, co38, eo38⟩ := Kd.S_slice HO_167000.out
    subst eo38
    have hnb39 := NB162_161.out; have hnc39 := NB161_162.out
    obtain ⟨hcz40_0, hcz40_1, hfz40_0, hfz40_1⟩ := cf2_ BK162
    go_wp2
    refine bodyPost_ret (results_cell_row rfl _ _ gb162 27 #[.slice Ao38 x167000_1.length co38, .slice Ao8 t163.length co8] (0, 0) _ rfl (bP_ BK162) Try.underlying27 rfl (by kernel_rfl)) rfl ?_
    exact ⟨_, _, by first | rfl | (simp [errW_none, errW_some] <;> rfl) | (simp [*, errW_none, errW_some] <;> rfl), by (with_reducible repeat (first | apply Kd.S_alloc | apply Kd.S_drewN | apply Kd.S_drew)); exact Kd.S_mono (Kd.S_far (p := ⟨gb162, 1, none⟩) (Kd.S_far (p := ⟨gb162, 0, none⟩) (Kd.S_types HO_167000.out BK162.out (by decide)) (fun _ hk => hk.2) (.slice Ao38 x167000_1.length co38)) (fun _ hk => hk.2) (.slice Ao8 t163.length co8)) (fun _ hk => hk.1), by (with_reducible repeat (first | apply Kd.R_alloc | apply Kd.R_drewN | apply Kd.R_drew)); exact Kd.R_mono (Kd.R_far (p := ⟨gb162, 1, none⟩) (Kd.R_far (p := ⟨gb162, 0, none⟩) (Kd.R_types HO_167001.out BK162.out (by decide)) (fun _ hk => hk.2) (.slice Ao38 x167000_1.length co38)) (fun _ hk => hk.2) (.slice Ao8 t163.length co8)) (fun _ hk => trivial), sABelo_7⟩


/-! ### impl_Job: function 80 -/
def impl_Job.f (l0 : List (S43)) : Option (List (S43)) := if l0.length < 8796093022208 then some l0 else none
set_option maxHeartbeats 8000000 in
set_option maxRecDepth 100000 in
theorem impl_Job.calls (A0 : Option Addr) (c0 : Nat) (l0 : List (S43)) (r : List (S43)) (w : World) (hr0 : Kd.C k43 w A0 l0.length l0) (hc0 : l0.length ≤ c0) (h : impl_Job.f l0 = some r) :
  Calls Try.prog 80 #[.slice A0 l0.length c0] w fun e w' => ∃ v0_ : Value, e = .returned (v0_) ∧ Kd.R k43 43 w' w.heap.size (fun _ => True) v0_ r ∧ Below w.heap.size w w' := by
 unfold impl_Job.f at h
 by_cases c4 : l0.length < 8796093022208
 ·rw [if_pos c4] at h
  obtain rfl := Option.some.inj h
  clear h; have LM := Aside0.mk c4; clear c4; have HR0 := Aside0.mk hr0; have HC0 := Aside0.mk hc0; clear hr0 hc0
  have HB := Aside0.mk (Below.refl w.heap.size w)
  have hq : ∀ (W : World) (a : Option Addr) (m c : Nat), (binOp .eql 29 (.slice a m c) (.slice none 0 0)).run Try.prog W = .ok (.bool a.isNone) W := fun W a m c => Lib.run_eql_slice_nil W 29 43 a m c 0 0 Try.underlying29
  cases A0 with
  | none =>
   have hl : l0 = [] := by
    rcases Nat.eq_zero_or_pos l0.length with h | h
    ·exact List.eq_nil_of_length_eq_zero h
    ·obtain ⟨ad, e, _⟩ := HR0.out.2.2 h
     cases e
   subst hl
   clear HR0 HC0 LM
   go_enter Try.func80, Try.ntmps80
   go_wp2
   go_ret
   exact ⟨_, rfl, Kd.R_nil _ _ _ _ _, sABelo_7⟩
  | some a0 =>
   obtain ⟨y1, hy1⟩ : ∃ y_ : List (S43), y_ = ([] : List (S43)) := ⟨_, rfl⟩
   obtain ⟨y2, hy2⟩ : ∃ y_ : List (S43), y_ = y1 ++ l0 := ⟨_, rfl⟩
   have e2 : y2 = l0 := by rw [hy2, hy1]; rfl
   have LM2 : Aside0 (y1.length + l0.length < 8796093022208) := Aside0.mk (by rw [hy1]; simpa using LM.out)
   have Ny1 := Aside0.mk hy1; have Ny2 := Aside0.mk hy2; have Ne2 := Aside0.mk e2; clear hy1 hy2 e2
   have hg : Calls Try.prog 80 #[.slice (some a0) l0.length c0] w (fun e w' => ∃ v0_ : Value, e = .returned (v0_) ∧ Kd.R k43 43 w' w.heap.size (fun _ => True) v0_ y2 ∧ Below w.heap.size w w') := by
    go_enter Try.func80, Try.ntmps80
    go_wp2_with (first | ((with_reducible refine gate_dst (N := 5) rfl ?_); refine Kd.R_lit k43 _ 43 ?hg (N := 5) ?hd (xs := ([] : List (S43))) (inner := []) (ok := fun _ => True) (okp := fun _ => True) ?hr ?hp (fun _ hk => hk) trivial (Below.refl _ _) (Nat.le_refl _) (by simp) ?_; (case hd => rfl); (case hg => rfl); (case hr => first | (go_simp; done) | (go_simp; rfl)); (case hp => exact (Reps.none _ _)); intro v1 w8 ho9 hb hg_ hnew_; clear hg_ hnew_; rw [← Ny1.out] at ho9; have HO1 := rL_ ho9 HB; replace HB := bS_ HB hb; clear hb ho9) | ((with_reducible refine gate_builtin (b := .append) (xs := #[.tmp 5, .tmp 6]) rfl ?_); at_builtin; refine Kd.R_append_rows k43 (w0 := w) w.heap.size rfl (.tmp 5) (.tmp 6) 29 43 (.agg #[(.int .i64 0), (.int .i64 0)]) 16 rfl Try.underlying29 info43 rfl (by decide) (by omega) v1 y1 l0 _ _ _ (fun _ => True) (fun _ => False) rfl rfl ?aO ?aR (fun _ _ h => h) (fun _ h => h.elim) ?aF ?aB ?aS ?aL ?_; (case aR => repeat (first | exact (Kd.C_below HR0.out HB.out) | (with_reducible refine Kd.C_alloc ?_ _) | (with_reducible refine Kd.C_drewN ?_ _) | (with_reducible refine Kd.C_drew ?_))); (case aB => exact sABelo_7); (case aF => exact (fun _ _ => trivial)); (case aO => exact (rT_ HO1)); (case aS => exact (below_size sABelo_7)); (case aL => have := LM2.out; omega); intro v2 w10 ho hb hg hat; rw [← Ny2.out] at ho; replace HB := Aside0.mk (hb); have HO2 := Aside0.mk (ho); clear HO1; clear ho hb hg hat; obtain ⟨Ao11, co11, eo11⟩ := Kd.R_slice HO2.out; subst eo11))
    go_ret
    exact ⟨_, rfl, by (with_reducible repeat (first | apply Kd.R_alloc | apply Kd.R_drewN | apply Kd.R_drew)); exact HO2.out, sABelo_7⟩
   exact hg.mono fun e w' ⟨v, h1, h2, h3⟩ => ⟨v, h1, by rw [← Ne2.out]; exact h2, h3⟩
 ·rw [if_neg c4] at h
  exact absurd h (by simp)

/-! ### impl_copyRun: function 49 -/
def impl_copyRun.f (k : Nat) (l0_0 : List (S39)) (l0_1 : List Int) (a0_2 : Int) (l0_3 : List (S43)) : Option ((List (S39)) × List Int × Int × (List (S43))) := (impl_copySuite.f k l0_0 l0_1).bind fun bt177 => ((impl_Job.f l0_3).bind fun t183 => (some (bt177.1, bt177.2, a0_2, t183)))
theorem impl_copyRun.mono : ∀ a0 a1 a2 a3 k, LeO (impl_copyRun.f k a0 a1 a2 a3) (impl_copyRun.f (k + 1) a0 a1 a2 a3) := by
 intro a0 a1 a2 a3 k
 unfold impl_copyRun.f
 repeat' first
   | (with_reducible exact impl_copySuite.mono _ _ _)
   | (with_reducible exact LeO.refl _)
   | (with_reducible exact LeO.none _)
   | (with_reducible refine LeO.ite ?_ ?_)
   | (with_reducible refine LeO.bind ?_ (fun _ => ?_))
   | exact impl_copySuite.mono _ _ _
   | exact LeO.none _
   | refine LeO.ite ?_ ?_
   | refine LeO.bind ?_ (fun _ => ?_)
def impl_copyRun.T1 : Bool × List (List Nat × List Nat) := (true, [([], []), ([0], [0]), ([1], [1]), ([], []), ([3], [3]), ([], []), ([5], [5]), ([6, 2], [6]), ([2, 4, 7], [2, 4, 7]), ([8, 7, 0, 1, 2, 3, 4, 5, 6, 7, 8], [8])])
def impl_copyRun.B1 : List Nat := [0, 1, 3, 0, 8, 0, 32, 103, 255, 511]
theorem impl_copyRun.tab1 : rtab .any (opsOf Try.f49 1) = impl_copyRun.T1 := by kernel_rfl
theorem impl_copyRun.bits1 : waitsOk impl_copyRun.T1.2 impl_copyRun.B1 = true := by kernel_rfl
set_option maxHeartbeats 8000000 in
set_option maxRecDepth 100000 in
theorem impl_copyRun.calls (k : Nat) (A0_0 : Option Addr) (c0_0 : Nat) (l0_0 : List (S39)) (A0_1 : Option Addr) (c0_1 : Nat) (l0_1 : List Int) (a0_2 : Int) (A0_3 : Option Addr) (c0_3 : Nat) (l0_3 : List (S43)) (r1 : List (S39)) (r2 : List Int) (r3 : Int) (r4 : List (S43)) (w : World) (hr0_0 : Kd.C k39 w A0_0 l0_0.length l0_0) (hc0_0 : l0_0.length ≤ c0_0) (hr0_1 : Kd.C (Kd.int .i64) w A0_1 l0_1.length l0_1) (hc0_1 : l0_1.length ≤ c0_1) (hr0_3 : Kd.C k43 w A0_3 l0_3.length l0_3) (hc0_3 : l0_3.length ≤ c0_3) (h : impl_copyRun.f k l0_0 l0_1 a0_2 l0_3 = some (r1, r2, r3, r4)) :
  Calls Try.prog 49 #[.agg #[.slice A0_0 l0_0.length c0_0, .slice A0_1 l0_1.length c0_1, .int .i64 a0_2, .slice A0_3 l0_3.length c0_3]] w fun e w' => ∃ v0_ v1_ v3_ : Value, e = .returned (.agg #[v0_, v1_, .int .i64 r3, v3_]) ∧ Kd.S k39 39 w' w.heap.size (fun k_ => some k_ ≠ (v1_ : Value).ownBlock) v0_ r1 ∧ Kd.R (Kd.int .i64) 2 w' w.heap.size (fun _ => True) v1_ r2 ∧ Kd.R k43 43 w' w.heap.size (fun _ => True) v3_ r4 ∧ Below w.heap.size w w' := by
 have hu31 := Try.underlying31; have hu27 := Try.underlying27; have HR0_0 := Aside0.mk hr0_0; have HC0_0 := Aside0.mk hc0_0; clear hr0_0 hc0_0; have HR0_1 := Aside0.mk hr0_1; have HC0_1 := Aside0.mk hc0_1; clear hr0_1 hc0_1; have HR0_3 := Aside0.mk hr0_3; have HC0_3 := Aside0.mk hc0_3; clear hr0_3 hc0_3
 have HB := Aside0.mk (Below.refl w.heap.size w)
 have H : ((impl_copySuite.f k l0_0 l0_1).bind fun bt177 => ((impl_Job.f l0_3).bind fun t183 => (some (bt177.1, bt177.2, a0_2, t183)))) = some (r1, r2, r3, r4) := h
 clear h; replace H := Option.bind_eq_some_iff.mp H
 obtain ⟨⟨t177, t180⟩, A20, H⟩ := H
 replace H : ((impl_Job.f l0_3).bind fun t183 => (some (t177, t180, a0_2, t183))) = some (r1, r2, r3, r4) := H
 have A2 := Aside0.mk A20; clear A20; replace H := Option.bind_eq_some_iff.mp H
 obtain ⟨t183, A30, H⟩ := H
 replace H : (some (t177, t180, a0_2, t183)) = some (r1, r2, r3, r4) := H
 have A3 := Aside0.mk A30; clear A30
 simp only [Option.some.injEq, Prod.mk.injEq] at H
 obtain ⟨rfl, rfl, rfl, rfl⟩ := H
 go_enter Try.func49, Try.ntmps49
 try go_wp2_with (first | ((with_reducible refine gate_dst (N := 1) rfl ?_); refine box_event ?hg (N := 1) ?hd (cs := #[.slice A0_0 l0_0.length c0_0, .slice A0_1 l0_1.length c0_1, .int .i64 a0_2, .slice A0_3 l0_3.length c0_3]) (t := 31) ?hr ?_; (case hd => rfl); (case hg => rfl); (case hr => first | (go_simp; done) | (go_simp; rfl)); intro gb175 hg w4 hbox hb; have BK175 := Aside0.mk (hbox); have GW175 := gE_ HB hg; have GE175 := gE_ HB hg; replace HB := bS_ HB hb; clear hb hbox hg) | ((with_reducible refine gate_dst (N := 2) rfl ?_); refine box_event ?hg (N := 2) ?hd (cs := #[.slice none 0 0, .slice none 0 0, .int .i64 0, .slice none 0 0]) (t := 31) ?hr ?_; (case hd => rfl); (case hg => rfl); (case hr => first | (go_simp; done) | (go_simp; rfl)); intro gb176 hg w5 hbox hb; have BK176 := Aside0.mk (hbox); have GW176 := gE_ HB hg; have GE176 := gE_ HB hg; replace HB := bS_ HB hb; have NB175_176 := nL_ BK175 hg; have NB176_175 := nG_ BK175 hg; replace BK175 := bB_ BK175 hb; clear hb hbox hg))
 replace BK175 := Aside0.mk (blk_drew BK175.out)
 replace BK176 := Aside0.mk (blk_drew BK176.out)
 replace HB := Aside0.mk (below_drew1 HB.out)
 refine start_ (n := 10) (S := fun w' => w'.cell? ⟨gb175, 0, none⟩ = some (.slice A0_0 l0_0.length c0_0) ∧ w'.cell? ⟨gb175, 1, none⟩ = some (.slice A0_1 l0_1.length c0_1) ∧ w'.cell? ⟨gb175, 2, none⟩ = some (.int .i64 a0_2) ∧ w'.cell? ⟨gb175, 3, none⟩ = some (.slice A0_3 l0_3.length c0_3)) (ds := []) #[false, false, false, false, false, false, false, false, false, false] (by kernel_rfl) rfl rfl ⟨(blk_cell BK175.out 0).trans rfl, (blk_cell BK175.out 1).trans rfl, (blk_cell BK175.out 2).trans rfl, (blk_cell BK175.out 3).trans rfl⟩ (fun hHeld => ?_); refine with_tabW impl_copyRun.tab1 impl_copyRun.bits1 (fun HT_ HW_ => ?_)
 generalize w5.drew = w6 at BK175 BK176 HB hHeld ⊢
 refine pT_ 0 (some 3) #[true, false, false, false, false, false, false, false, false, false] HT_ ?_
 refine pT_ 3 (some 6) #[true, false, false, true, false, false, false, false, false, false] HT_ ?_
 refine pT_ 5 (some 8) #[true, false, false, true, false, true, false, false, false, false] HT_ ?_
 refine tT_ 1 (some 4) #[true, true, false, true, false, true, false, false, false, false] HT_ HW_ hHeld ?_ (hy := by rintro w' ⟨s0, s1, s2, s3⟩; go_simp; with_reducible rfl)
 refine tT_ 4 (some 7) #[true, true, false, true, true, true, false, false, false, false] HT_ HW_ hHeld ?_ (hy := by rintro w' ⟨s0, s1, s2, s3⟩; go_simp; with_reducible rfl)
 refine tT_ 6 (some 9) #[true, true, false, true, true, true, true, false, false, false] HT_ HW_ hHeld ?_ (hy := by rintro w' ⟨s0, s1, s2, s3⟩; go_simp; with_reducible rfl)
 refine one_ (i := 2) (N := some 5) #[true, true, true, true, true, true, true, false, false, false] rfl rfl (one_of HT_.out (by kernel_rfl)) (by decide) (fun K hK => ?_)
 refine goes_ Try.func47 (by kernel_rfl) rfl #[.agg #[.slice A0_0 l0_0.length c0_0, .slice A0_1 l0_1.length c0_1]] (by rfl) rfl rfl (by (try simp only [List.map_toArray, List.map_cons, List.map_nil]); first | done | rfl | (simp only [List.length_drop, List.length_take]; rfl)) ?_
 with_reducible refine (impl_copySuite.calls k _ _ l0_0 _ _ l0_1 t177 t180 _ ?side1 ?side2 ?side3 ?side4 A2.out).mono ?_
 (case side1 => exact cB_ HR0_0 HB)
 (case side2 => exact HC0_0.out)
 (case side3 => exact cB_ HR0_1 HB)
 (case side4 => exact HC0_1.out)
 rintro e w7 ⟨v178, v181, rfl, ho0, ho1, hb⟩
 refine ⟨_, rfl, ?_⟩
 have HO179 := sL_ ho0 HB; have HO182 := rL_ ho1 HB; replace BK175 := bB_ BK175 hb; replace BK176 := bB_ BK176 hb; replace HB := bS_ HB hb; (try clear hb); (try clear ho0); (try clear ho1)
 refine hK.out _ _ ⟨(blk_cell BK175.out 0).trans rfl, (blk_cell BK175.out 1).trans rfl, (blk_cell BK175.out 2).trans rfl, (blk_cell BK175.out 3).trans rfl⟩ (fun hHeld => ?_)
 clear hK K
 refine nS_ (some 5) ?_
 refine one_ (i := 7) (N := some 10) #[true, true, true, true, true, true, true, true, false, false] rfl rfl (one_of HT_.out (by kernel_rfl)) (by decide) (fun K hK => ?_)
 refine goes_ Try.func80 (by kernel_rfl) rfl #[.slice A0_3 l0_3.length c0_3] (by rfl) rfl rfl (by (try simp only [List.map_toArray, List.map_cons, List.map_nil]); first | done | rfl | (simp only [List.length_drop, List.length_take]; rfl)) ?_
 with_reducible refine (impl_Job.calls _ _ l0_3 t183 _ ?side1 ?side2 A3.out).mono ?_
 (case side1 => exact cB_ HR0_3 HB)
 (case side2 => exact HC0_3.out)
 rintro e w8 ⟨v184, rfl, ho0, hb⟩
 refine ⟨_, rfl, ?_⟩
 replace HO179 := sB_ HO179 hb; replace HO182 := rB_ HO182 hb; have HO185 := rL_ ho0 HB; replace BK175 := bB_ BK175 hb; replace BK176 := bB_ BK176 hb; replace HB := bS_ HB hb; (try clear hb); (try clear ho0)
 obtain ⟨Ao9, co9, eo9⟩ := Kd.R_slice HO185.out
 (first | subst eo9 | (injection eo9 with f1_ f2_ f3_; have f4_ := f1_.symm; have f5_ := f3_.symm; clear f1_ f2_ f3_; subst f4_; subst f5_))
 obtain ⟨Ao10, co10, eo10⟩ := Kd.R_slice HO182.out
 (first | subst eo10 | (injection eo10 with f1_ f2_ f3_; have f4_ := f1_.symm; have f5_ := f3_.symm; clear f1_ f2_ f3_; subst f4_; subst f5_))
 obtain ⟨Ao11, co11, eo11⟩ := Kd.S_slice HO179.out
 (first | subst eo11 | (injection eo11 with f1_ f2_ f3_; have f4_ := f1_.symm; have f5_ := f3_.symm; clear f1_ f2_ f3_; subst f4_; subst f5_))
 refine hK.out _ _ ⟨(blk_cell BK175.out 0).trans rfl, (blk_cell BK175.out 1).trans rfl, (blk_cell BK175.out 2).trans rfl, (blk_cell BK175.out 3).trans rfl⟩ (fun hHeld => ?_)
 clear hK K
 refine nS_ (some 10) ?_
 refine pT_ 8 (some 11) #[true, true, true, true, true, true, true, true, true, false] HT_ ?_
 refine one_ (i := 9) (N := none) #[true, true, true, true, true, true, true, true, true, true] rfl rfl (one_of HT_.out (by kernel_rfl)) (by decide) (fun K hK => ?_)
 have hs12 : w8.cell? ⟨gb176, 0, none⟩ = some (.slice none 0 0) := (blk_cell BK176.out 0).trans rfl
 have hfs12 := blk_frozen BK176.out 0; have hns12_0 := NB175_176.out; have hms12_0 := NB176_175.out
 have hs13 : w8.cell? ⟨gb176, 1, none⟩ = some (.slice none 0 0) := (blk_cell BK176.out 1).trans rfl
 have hfs13 := blk_frozen BK176.out 1; have hns13_0 := NB175_176.out; have hms13_0 := NB176_175.out
 have hs14 : w8.cell? ⟨gb176, 2, none⟩ = some (.int .i64 0) := (blk_cell BK176.out 2).trans rfl
 have hfs14 := blk_frozen BK176.out 2; have hns14_0 := NB175_176.out; have hms14_0 := NB176_175.out
 have hs15 : w8.cell? ⟨gb176, 3, none⟩ = some (.slice none 0 0) := (blk_cell BK176.out 3).trans rfl
 have hfs15 := blk_frozen BK176.out 3; have hns15_0 := NB175_176.out; have hms15_0 := NB176_175.out
 refine skip_ (w1 := ?_) (by rfl) rfl ?_ ?_
 rotate_left
 ·go_simp
  rfl
 refine hK.out _ _ ⟨((cell_far (p := ⟨gb176, _, none⟩) NB175_176.out _).trans (((cell_far (p := ⟨gb176, _, none⟩) NB175_176.out _).trans (((cell_far (p := ⟨gb176, _, none⟩) NB175_176.out _).trans (((cell_far (p := ⟨gb176, _, none⟩) NB175_176.out _).trans (hHeld.1)))))))), ((cell_far (p := ⟨gb176, _, none⟩) NB175_176.out _).trans (((cell_far (p := ⟨gb176, _, none⟩) NB175_176.out _).trans (((cell_far (p := ⟨gb176, _, none⟩) NB175_176.out _).trans (((cell_far (p := ⟨gb176, _, none⟩) NB175_176.out _).trans (hHeld.2.1)))))))), ((cell_far (p := ⟨gb176, _, none⟩) NB175_176.out _).trans (((cell_far (p := ⟨gb176, _, none⟩) NB175_176.out _).trans (((cell_far (p := ⟨gb176, _, none⟩) NB175_176.out _).trans (((cell_far (p := ⟨gb176, _, none⟩) NB175_176.out _).trans (hHeld.2.2.1)))))))), ((cell_far (p := ⟨gb176, _, none⟩) NB175_176.out _).trans (((cell_far (p := ⟨gb176, _, none⟩) NB175_176.out _).trans (((cell_far (p := ⟨gb176, _, none⟩) NB175_176.out _).trans (((cell_far (p := ⟨gb176, _, none⟩) NB175_176.out _).trans (hHeld.2.2.2))))))))⟩ (fun hHeld => ?_)
 clear hK K
 refine done_ (done_of HT_.out (by kernel_rfl)) ?_
 try go_wp2
 refine bodyPost_ret (results_cell_row rfl _ _ gb176 31 #[.slice Ao11 t177.length co11, .slice Ao10 t180.length co10, .int .i64 a0_2, .slice Ao9 t183.length co9] (0, 0) _ rfl (bP_ BK176) Try.underlying31 rfl (by kernel_rfl)) rfl ?_
 exact ⟨_, _, _, by first | rfl | (simp [errW_none, errW_some] <;> rfl) | (simp [*, errW_none, errW_some] <;> rfl), by (with_reducible repeat (first | apply Kd.S_alloc | apply Kd.S_drewN | apply Kd.S_drew)); exact Kd.S_mono (Kd.S_far (p := ⟨gb176, 3, none⟩) (Kd.S_far (p := ⟨gb176, 2, none⟩) (Kd.S_far (p := ⟨gb176, 1, none⟩) (Kd.S_far (p := ⟨gb176, 0, none⟩) (Kd.S_types HO179.out BK176.out (by decide)) (fun _ hk => hk.2) (.slice Ao11 t177.length co11)) (fun _ hk => hk.2) (.slice Ao10 t180.length co10)) (fun _ hk => hk.2) (.int .i64 a0_2)) (fun _ hk => hk.2) (.slice Ao9 t183.length co9)) (fun _ hk => hk.1), by (with_reducible repeat (first | apply Kd.R_alloc | apply Kd.R_drewN | apply Kd.R_drew)); exact Kd.R_mono (Kd.R_far (p := ⟨gb176, 3, none⟩) (Kd.R_far (p := ⟨gb176, 2, none⟩) (Kd.R_far (p := ⟨gb176, 1, none⟩) (Kd.R_far (p := ⟨gb176, 0, none⟩) (Kd.R_types HO182.out BK176.out (by decide)) (fun _ hk => hk.2) (.slice Ao11 t177.length co11)) (fun _ hk => hk.2) (.slice Ao10 t180.length co10)) (fun _ hk => hk.2) (.int .i64 a0_2)) (fun _ hk => hk.2) (.slice Ao9 t183.length co9)) (fun _ hk => trivial), by (with_reducible repeat (first | apply Kd.R_alloc | apply Kd.R_drewN | apply Kd.R_drew)); exact Kd.R_mono (Kd.R_far (p := ⟨gb176, 3, none⟩) (Kd.R_far (p := ⟨gb176, 2, none⟩) (Kd.R_far (p := ⟨gb176, 1, none⟩) (Kd.R_far (p := ⟨gb176, 0, none⟩) (Kd.R_types HO185.out BK176.out (by decide)) (fun _ hk => hk.2) (.slice Ao11 t177.length co11)) (fun _ hk => hk.2) (.slice Ao10 t180.length co10)) (fun _ hk => hk.2) (.int .i64 a0_2)) (fun _ hk => hk.2) (.slice Ao9 t183.length co9)) (fun _ hk => trivial), sABelo_7⟩

end Go.Proofs.Ytjoghfehmhapbaa.QFnExactStartTasks
