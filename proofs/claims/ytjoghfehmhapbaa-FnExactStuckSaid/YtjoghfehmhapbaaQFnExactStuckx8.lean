-- Written by a program of this session out of the printer's texts and contracts of its own.
import Derived.Test.YtjoghfehmhapbaaSq
import Derived.Test.YtjoghfehmhapbaaQFnExactStuckx0
import Derived.Test.YtjoghfehmhapbaaQFnExactStuckx6
import Derived.Test.YtjoghfehmhapbaaQFnExactStuckx7
namespace Go.Proofs.Ytjoghfehmhapbaa.QFnExactStuck
open Go.RowKit Go.Proofs.YtjoghfehmhapbaaW.PrintWords Go.Proofs.YtjoghfehmhapbaaW.PrintLast Go.Proofs.YtjoghfehmhapbaaW.PrintMore Go.Proofs.Ytjoghfehmhapbaa.Sq
attribute [local go_sem] max2_int min2_int max_two min_two max_three min_three max_four min_four   -- for this text's walks alone
set_option linter.unusedVariables false
set_option linter.unusedSimpArgs false
theorem sABelo_8 {b : Nat} {w W : World} (h : Below b w W := by repeat (first | (with_reducible first | exact Aside0.out (by assumption) | apply below_alloc | apply pw_below_drewN | apply below_drew1 | refine below_set ?_ (Aside0.out (by assumption))) | exact Aside0.out (by assumption))) : Below b w W := h

/-! ### impl_Stuck: function 19 -/
def impl_Stuck.l0 : Nat → List Bool → List Int → List (S39) → Int → Int → List (S39) → List Int → Int → List (S43) → Option (List Int)
 | 0, _, _, _, _, _, _, _, _, _ => none
 | k + 1, x3, x4, x17, x18, x19, x165000, x165001, x165002, x165003 => if x19 < x18 then (if 0 ≤ x19 then (if x19 < (x17.length : Int) then (if x19 < (x165003.length : Int) then (if ((rd_T43 x165003 x19).f0) = 3 then (if x19 < (x3.length : Int) then ((some (x3.set (x19 : Int).toNat true : List Bool)).bind fun y175 => (if true = true then (if x4.length < 17592186044416 then (impl_Stuck.l0 k y175 (x4 ++ [wrap64 (x19 + 1)]) x17 x18 (wrap64 (x19 + 1)) x165000 x165001 x165002 x165003) else (none)) else (impl_Stuck.l0 k y175 x4 x17 x18 (wrap64 (x19 + 1)) x165000 x165001 x165002 x165003))) else (none)) else ((slices_ContainsFunc_int64_int64.f k ((rd_T39 x17 x19).f0) x3).bind fun t180 => (if x19 < (x3.length : Int) then ((some (x3.set (x19 : Int).toNat t180 : List Bool)).bind fun y181 => (if t180 = true then (if x4.length < 17592186044416 then (impl_Stuck.l0 k y181 (x4 ++ [wrap64 (x19 + 1)]) x17 x18 (wrap64 (x19 + 1)) x165000 x165001 x165002 x165003) else (none)) else (impl_Stuck.l0 k y181 x4 x17 x18 (wrap64 (x19 + 1)) x165000 x165001 x165002 x165003))) else (none)))) else (none)) else (none)) else (none)) else (some x4)
def impl_Stuck.f (k : Nat) (l0_0 : List (S39)) (l0_1 : List Int) (a0_2 : Int) (l0_3 : List (S43)) : Option (List Int) := (impl_runOk.f k l0_0 l0_1 a0_2 l0_3).bind fun t165 => (if t165 = true then (if 0 ≤ (l0_3.length : Int) then (if ((l0_3.length : Int) : Int).toNat ≤ 281474976710656 then (impl_Stuck.l0 k (List.replicate ((l0_3.length : Int) : Int).toNat false) (([] : List Int)) l0_0 (l0_0.length : Int) 0 l0_0 l0_1 a0_2 l0_3) else (none)) else (none)) else (some ([] : List Int)))
theorem impl_Stuck.mono_l : ∀ k, (∀ y0 y1 y2 y3 y4 y5 y6 y7 y8, LeO (impl_Stuck.l0 k y0 y1 y2 y3 y4 y5 y6 y7 y8) (impl_Stuck.l0 (k + 1) y0 y1 y2 y3 y4 y5 y6 y7 y8))
 | 0 => fun _ _ _ _ _ _ _ _ _ r h => by simp [impl_Stuck.l0] at h
 | k + 1 => by
  have ih0 := impl_Stuck.mono_l k
  ·intro y0 y1 y2 y3 y4 y5 y6 y7 y8
   unfold impl_Stuck.l0
   repeat' first
   | (with_reducible exact ih0 _ _ _ _ _ _ _ _ _)
   | (with_reducible exact impl_runOk.mono _ _ _ _ _)
   | (with_reducible exact slices_ContainsFunc_int64_int64.mono _ _ _)
   | (with_reducible exact LeO.refl _)
   | (with_reducible exact LeO.none _)
   | (with_reducible refine LeO.ite ?_ ?_)
   | (with_reducible refine LeO.bind ?_ (fun _ => ?_))
   | exact ih0 _ _ _ _ _ _ _ _ _
   | exact impl_runOk.mono _ _ _ _ _
   | exact slices_ContainsFunc_int64_int64.mono _ _ _
   | exact LeO.none _
   | refine LeO.ite ?_ ?_
   | refine LeO.bind ?_ (fun _ => ?_)
theorem impl_Stuck.mono : ∀ a0 a1 a2 a3 k, LeO (impl_Stuck.f k a0 a1 a2 a3) (impl_Stuck.f (k + 1) a0 a1 a2 a3) := by
 intro a0 a1 a2 a3 k
 have ih0 := impl_Stuck.mono_l k
 unfold impl_Stuck.f
 repeat' first
   | (with_reducible exact ih0 _ _ _ _ _ _ _ _ _)
   | (with_reducible exact impl_runOk.mono _ _ _ _ _)
   | (with_reducible exact slices_ContainsFunc_int64_int64.mono _ _ _)
   | (with_reducible exact LeO.refl _)
   | (with_reducible exact LeO.none _)
   | (with_reducible refine LeO.ite ?_ ?_)
   | (with_reducible refine LeO.bind ?_ (fun _ => ?_))
   | exact ih0 _ _ _ _ _ _ _ _ _
   | exact impl_runOk.mono _ _ _ _ _
   | exact slices_ContainsFunc_int64_int64.mono _ _ _
   | exact LeO.none _
   | refine LeO.ite ?_ ?_
   | refine LeO.bind ?_ (fun _ => ?_)
def impl_Stuck.T8 : Bool × List (List Nat × List Nat) := (true, [([], []), ([], []), ([], []), ([2], [2]), ([], []), ([3, 4], [3, 4]), ([5], [5]), ([6], [6]), ([7], [7]), ([8], [8]), ([9], [9]), ([10, 9], [9, 10]), ([9], [9]), ([11, 12, 9, 9], [9, 11, 12]), ([9, 13], [9, 13]), ([0, 1, 0, 1, 2, 3, 4, 5, 6, 7, 8, 9, 10, 11, 12, 13, 14], [0, 1]), ([15, 14, 13, 0, 1, 2, 3, 4, 5, 6, 7, 8, 9, 10, 11, 12, 13, 14], [14, 15])])
def impl_Stuck.B8 : List Nat := [0, 0, 0, 4, 0, 28, 60, 124, 252, 508, 1020, 2044, 1020, 8188, 16380, 32767, 65535]
theorem impl_Stuck.tab8 : rtab .any (opsOf Try.f19 8) = impl_Stuck.T8 := by kernel_rfl
theorem impl_Stuck.bits8 : waitsOk impl_Stuck.T8.2 impl_Stuck.B8 = true := by kernel_rfl
set_option maxHeartbeats 8000000 in
set_option maxRecDepth 100000 in
theorem impl_Stuck.calls (k : Nat) (A0_0 : Option Addr) (c0_0 : Nat) (l0_0 : List (S39)) (A0_1 : Option Addr) (c0_1 : Nat) (l0_1 : List Int) (a0_2 : Int) (A0_3 : Option Addr) (c0_3 : Nat) (l0_3 : List (S43)) (r : List Int) (w : World) (hr0_0 : Kd.C k39 w A0_0 l0_0.length l0_0) (hc0_0 : l0_0.length ≤ c0_0) (hr0_1 : Kd.C (Kd.int .i64) w A0_1 l0_1.length l0_1) (hc0_1 : l0_1.length ≤ c0_1) (hr0_3 : Kd.C k43 w A0_3 l0_3.length l0_3) (hc0_3 : l0_3.length ≤ c0_3) (h : impl_Stuck.f k l0_0 l0_1 a0_2 l0_3 = some r) :
  Calls Try.prog 19 #[.agg #[.slice A0_0 l0_0.length c0_0, .slice A0_1 l0_1.length c0_1, .int .i64 a0_2, .slice A0_3 l0_3.length c0_3]] w fun e w' => ∃ v0_ : Value, e = .returned (v0_) ∧ Kd.R (Kd.int .i64) 2 w' w.heap.size (fun _ => True) v0_ r ∧ Below w.heap.size w w' := by
 have hu31 := Try.underlying31; have hu34 := Try.underlying34
 have hmf_ : ∀ (fn : Fn) (first cap : Array Value) (w : World), (Instr.makeFunc fn first cap).run Try.prog w = .ok (.func fn first cap) w := fun _ _ _ _ => rfl
 have hu39 := Try.underlying39; have HR0_0 := Aside0.mk hr0_0; have HC0_0 := Aside0.mk hc0_0; clear hr0_0 hc0_0; have HR0_1 := Aside0.mk hr0_1; have HC0_1 := Aside0.mk hc0_1; clear hr0_1 hc0_1; have HR0_3 := Aside0.mk hr0_3; have HC0_3 := Aside0.mk hc0_3; clear hr0_3 hc0_3
 have HB := Aside0.mk (Below.refl w.heap.size w)
 have H : ((impl_runOk.f k l0_0 l0_1 a0_2 l0_3).bind fun t165 => (if t165 = true then (if 0 ≤ (l0_3.length : Int) then (if ((l0_3.length : Int) : Int).toNat ≤ 281474976710656 then (impl_Stuck.l0 k (List.replicate ((l0_3.length : Int) : Int).toNat false) (([] : List Int)) l0_0 (l0_0.length : Int) 0 l0_0 l0_1 a0_2 l0_3) else (none)) else (none)) else (some ([] : List Int)))) = some r := h
 clear h; replace H := Option.bind_eq_some_iff.mp H
 obtain ⟨t165, A20, H⟩ := H
 replace H : (if t165 = true then (if 0 ≤ (l0_3.length : Int) then (if ((l0_3.length : Int) : Int).toNat ≤ 281474976710656 then (impl_Stuck.l0 k (List.replicate ((l0_3.length : Int) : Int).toNat false) (([] : List Int)) l0_0 (l0_0.length : Int) 0 l0_0 l0_1 a0_2 l0_3) else (none)) else (none)) else (some ([] : List Int))) = some r := H
 have A2 := Aside0.mk A20; clear A20
 by_cases c3 : t165 = true
 ·subst c3
  replace H := ifT_ H
  obtain ⟨c4, H⟩ := ifS_ H
  have c4b0 := eq_true c4
  have c4b1 : decide (0 ≤ (l0_3.length : Int)) = true := decide_eq_true c4
  clear c4
  obtain ⟨c5, H⟩ := ifS_ H
  have c5b0 := eq_true c5
  have c5b1 : decide (((l0_3.length : Int) : Int).toNat ≤ 281474976710656) = true := decide_eq_true c5
  clear c5
  obtain ⟨y166, hy166⟩ : ∃ y_ : List Bool, y_ = (List.replicate ((l0_3.length : Int) : Int).toNat false) := ⟨_, rfl⟩
  replace H : (impl_Stuck.l0 k y166 (([] : List Int)) l0_0 (l0_0.length : Int) 0 l0_0 l0_1 a0_2 l0_3) = some r := by first | (rw [hy166]; with_reducible exact H) | (have H2_ := (Option.bind_some _ _).symm.trans H; rw [hy166]; with_reducible exact H2_) | (have H2_ := (Option.bind_some _ _).symm.trans H; with_reducible exact H2_) | with_reducible exact H | (rw [hy166]; exact H) | exact H
  have Ny166 := Aside0.mk hy166; clear hy166
  obtain ⟨y169, hy169⟩ : ∃ y_ : List Int, y_ = (([] : List Int)) := ⟨_, rfl⟩
  replace H : (impl_Stuck.l0 k y166 y169 l0_0 (l0_0.length : Int) 0 l0_0 l0_1 a0_2 l0_3) = some r := by first | (rw [hy169]; with_reducible exact H) | (have H2_ := (Option.bind_some _ _).symm.trans H; rw [hy169]; with_reducible exact H2_) | (have H2_ := (Option.bind_some _ _).symm.trans H; with_reducible exact H2_) | with_reducible exact H | (rw [hy169]; exact H) | exact H
  have Ny169 := Aside0.mk hy169; clear hy169; have H' := Aside0.mk H; clear H
  go_enter Try.func19, Try.ntmps19
  go_wp2_with (first | ((with_reducible refine gate_dst (N := 1) rfl ?_); refine box_event ?hg (N := 1) ?hd (cs := #[.slice A0_0 l0_0.length c0_0, .slice A0_1 l0_1.length c0_1, .int .i64 a0_2, .slice A0_3 l0_3.length c0_3]) (t := 31) ?hr ?_; (case hd => rfl); (case hg => rfl); (case hr => first | (go_simp; done) | (go_simp; rfl)); intro gb164 hg w6 hbox hb; have BK164 := Aside0.mk (hbox); have GW164 := gE_ HB hg; have GE164 := gE_ HB hg; replace HB := bS_ HB hb; clear hb hbox hg; obtain ⟨hcz7_0, hcz7_1, hcz7_2, hcz7_3, hfz7_0, hfz7_1, hfz7_2, hfz7_3⟩ := cf4_ BK164) | ((with_reducible refine gate_callee (f := 48) rfl ?_); refine gL_ (some 8) Try.func48 #[.agg #[.slice A0_0 l0_0.length c0_0, .slice A0_1 l0_1.length c0_1, .int .i64 a0_2, .slice A0_3 l0_3.length c0_3]] ?_; (with_reducible refine (impl_runOk.calls k _ _ l0_0 _ _ l0_1 a0_2 _ _ l0_3 true _ ?side1 ?side2 ?side3 ?side4 ?side5 ?side6 A2.out).mono ?_); (case side1 => exact cB_ HR0_0 HB); (case side2 => exact HC0_0.out); (case side3 => exact cB_ HR0_1 HB); (case side4 => exact HC0_1.out); (case side5 => exact cB_ HR0_3 HB); (case side6 => exact HC0_3.out); rintro e w8 ⟨rfl, hb⟩; refine ⟨_, rfl, ?_⟩; replace BK164 := bB_ BK164 hb; replace HB := bS_ HB hb; (try clear hb); obtain ⟨hcz9_0, hcz9_1, hcz9_2, hcz9_3, hfz9_0, hfz9_1, hfz9_2, hfz9_3⟩ := cf4_ BK164) | ((with_reducible refine gate_dst (N := 13) rfl ?_); refine Kd.R_make Kd.bool _ 4 rfl (N := 13) rfl 34 _ _ rfl (l0_3.length : Int) rfl rfl Try.underlying34 (.bool false) 1 info4 rfl (by decide) (by omega) false (ok := fun _ => True) (okp := fun _ => True) rfl (fun _ hk => hk) trivial dA_ (Nat.le_trans (Nat.mul_le_mul_right _ (of_decide_eq_true (by first | (with_reducible assumption) | assumption) : (l0_3.length : Int).toNat ≤ 281474976710656)) (by omega)) (Below.refl _ _) (Nat.le_refl _) ?_; intro v167 w10 ho11 hb hg_ hnew_; clear hg_ hnew_; (first | rw [← Ny166.out] at ho11 | (simp only [Int.reduceToNat] at ho11; rw [← Ny166.out] at ho11)); have HO168 := rL_ ho11 HB; replace BK164 := bB_ BK164 hb; replace HB := bS_ HB hb; clear hb ho11) | ((with_reducible refine gate_dst (N := 3) rfl ?_); refine box_event ?hg (N := 3) ?hd (cs := #[.slice none 0 0]) (t := 34) ?hr ?_; (case hd => rfl); (case hg => rfl); (case hr => first | (go_simp; done) | (go_simp; rfl)); intro gbS hg wS hbox hb; replace HO168 := rB_ HO168 hb; have BKS := Aside0.mk (hbox); have GES := gE_ HB hg; replace HB := bS_ HB hb; have NB164_S := nL_ BK164 hg; replace BK164 := bB_ BK164 hb; clear hb hbox hg; have hczS : wS.cell? ⟨gbS, 0, none⟩ = some (.slice none 0 0) := (blk_cell BKS.out 0).trans rfl; have hfzS := blk_frozen BKS.out 0) | ((with_reducible refine gate_store (t := 34) (p := 3) rfl ?_); refine store_event (t := 34) (p := 3) (v := ?vo_S) (w1 := (wS.setCell ⟨gbS, 0, none⟩ v167)) ?hg ?ho ?hn ?hr ?_; (case ho => rfl); (case hg => rfl); (case hn => rfl); (case hr => (obtain ⟨AoS, coS, eoS⟩ := Kd.R_slice HO168.out; subst eoS; first | (go_simp; done) | (go_simp; rfl))); intro wT hw; replace HO168 := Aside0.mk (by rw [hw]; exact Kd.R_mono (Kd.R_far (p := ⟨gbS, 0, none⟩) (Kd.R_types HO168.out BKS.out (by decide)) (fun _ hk => hk.2) v167) (fun _ hk => hk.1) : Kd.R Kd.bool 4 wT w.heap.size (fun _ => True) v167 y166); replace BK164 := Aside0.mk (by rw [hw]; exact blk_far BK164.out NB164_S.out _ : wT.heap[gb164]? = some (.cells #[.slice A0_0 l0_0.length c0_0, .slice A0_1 l0_1.length c0_1, .int .i64 a0_2, .slice A0_3 l0_3.length c0_3] 31 (0, 0))); replace HB := Aside0.mk (by rw [hw]; exact below_set HB.out GES.out : Below w.heap.size w wT); replace BKS := Aside0.mk (by rw [hw]; exact blk_put (cs := #[.slice none 0 0]) BKS.out 0 _ rfl : wT.heap[gbS]? = some (.cells #[v167] 34 (0, 0))); clear hw hczS hfzS; have hczS_ : wT.cell? ⟨gb164, 0, none⟩ = some (.slice A0_0 l0_0.length c0_0) := (blk_cell BK164.out 0).trans rfl) | ((with_reducible refine gate_dst (N := 14) rfl ?_); refine Kd.R_lit (Kd.int .i64) _ 2 ?hg (N := 14) ?hd (xs := ([] : List Int)) (inner := []) (ok := fun _ => True) (okp := fun _ => True) ?hr ?hp (fun _ hk => hk) trivial (Below.refl _ _) (Nat.le_refl _) (by simp) ?_; (case hd => rfl); (case hg => rfl); (case hr => first | (go_simp; done) | (go_simp; rfl)); (case hp => exact (Reps.none _ _)); intro v170 w12 ho13 hb hg_ hnew_; clear hg_ hnew_; (first | rw [← Ny169.out] at ho13 | (simp only [Int.reduceToNat] at ho13; rw [← Ny169.out] at ho13)); have n0_ := rB_ HO168 hb; have n1_ := rL_ ho13 HB; have n2_ := bB_ BK164 hb; have s2_ := Aside0.mk (blk_below (g := gbS) (bT_ BKS) hb); have n3_ := bS_ HB hb; clear HO168; clear BK164 BKS; clear HB; have HO168 := n0_; have HO171 := n1_; have BK164 := n2_; have BKS := s2_; clear s2_; have HB := n3_; clear n0_ n1_ n2_ n3_; clear hb ho13; obtain ⟨hcz14_0, hcz14_1, hcz14_2, hcz14_3, hfz14_0, hfz14_1, hfz14_2, hfz14_3⟩ := cf4_ BK164))
  go_loopg [4, 19] k (fun kq v4 v19 w' => ∃ (x3_1 : List Bool) (x4_1 : List Int) (x19_1 : Int), v19 = .int .i64 x19_1 ∧ Aside0 (impl_Stuck.l0 kq x3_1 x4_1 l0_0 (l0_0.length : Int) x19_1 l0_0 l0_1 a0_2 l0_3 = some r) ∧ Aside0 (kq ≤ k) ∧ Aside0 (Kd.R Kd.bool 4 w' w.heap.size (fun _ => True) v167 x3_1) ∧ Aside0 (Kd.R (Kd.int .i64) 2 w' w.heap.size (fun _ => True) v4 x4_1) ∧ Aside0 (w'.heap[gb164]? = some (.cells #[(.slice A0_0 l0_0.length c0_0), (.slice A0_1 l0_1.length c0_1), .int .i64 a0_2, (.slice A0_3 l0_3.length c0_3)] 31 (0, 0))) ∧ Aside0 (w'.heap[gbS]? = some (.cells #[v167] 34 (0, 0))) ∧ Aside0 (Below w.heap.size w w'))
  case atStart => exact ⟨(y166), (y169), (0), (by first | rfl | (simp; done) | (simp [*]; done)), H', ⟨Nat.le_refl _⟩, ⟨rT_ HO168⟩, ⟨rT_ HO171⟩, ⟨bT_ BK164⟩, ⟨by (with_reducible repeat (first | refine blk_drewN ?_ _ | refine blk_drew ?_ | refine blk_alloc ?_ _)); exact BKS.out⟩, ⟨sABelo_8⟩⟩
  case round =>
   clear H'; (try clear c3); (try clear c4); (try clear c4b0); (try clear c4b1); (try clear c5); (try clear c5b0); (try clear c5b1); (try clear hcz14_0); (try clear hcz14_1); (try clear hcz14_2); (try clear hcz14_3); (try clear hcz7_0); (try clear hcz7_1); (try clear hcz7_2); (try clear hcz7_3); (try clear hcz9_0); (try clear hcz9_1); (try clear hcz9_2); (try clear hcz9_3); (try clear hfz14_0); (try clear hfz14_1); (try clear hfz14_2); (try clear hfz14_3); (try clear hfz7_0); (try clear hfz7_1); (try clear hfz7_2); (try clear hfz7_3); (try clear hfz9_0); (try clear hfz9_1); (try clear hfz9_2); (try clear hfz9_3)
   obtain ⟨x3_1, x4_1, x19_1, rfl, HA, HK1, HO_3, HO_4, BK164, BKS, HB⟩ := hrel
   cases gk with
   | zero => exact absurd HA.out (by simp [impl_Stuck.l0])
   | succ k1 =>
    have H := HA.out; clear HA
    simp only [impl_Stuck.l0] at H
    by_cases c15 : x19_1 < (l0_0.length : Int)
    ·rw [if_pos c15] at H
     have c15b0 := decide_eq_true c15
     clear c15
     obtain ⟨c16, H⟩ := ifS_ H
     have c16b0 : decide (0 ≤ x19_1) = true := decide_eq_true c16
     clear c16
     obtain ⟨c17, H⟩ := ifS_ H
     have c17b0 : decide (x19_1 < (l0_0.length : Int)) = true := decide_eq_true c17
     clear c17
     obtain ⟨c18, H⟩ := ifS_ H
     have c18b0 : decide (x19_1 < (l0_3.length : Int)) = true := decide_eq_true c18
     clear c18
     by_cases c19 : ((rd_T43 l0_3 x19_1).f0) = 3
     ·rw [if_pos c19] at H
      have c19b0 := beq_iff_eq.mpr c19
      have c19b1 := bne_eq_false_iff_eq.mpr c19
      clear c19
      obtain ⟨c20, H⟩ := ifS_ H
      have c20b0 : decide (x19_1 < (x3_1.length : Int)) = true := decide_eq_true c20
      clear c20
      obtain ⟨y175, hy175⟩ : ∃ y_ : List Bool, y_ = (x3_1.set (x19_1 : Int).toNat true) := ⟨_, rfl⟩
      replace H : (if true = true then (if x4_1.length < 17592186044416 then (impl_Stuck.l0 k1 y175 (x4_1 ++ [wrap64 (x19_1 + 1)]) l0_0 (l0_0.length : Int) (wrap64 (x19_1 + 1)) l0_0 l0_1 a0_2 l0_3) else (none)) else (impl_Stuck.l0 k1 y175 x4_1 l0_0 (l0_0.length : Int) (wrap64 (x19_1 + 1)) l0_0 l0_1 a0_2 l0_3)) = some r := by first | (rw [hy175]; with_reducible exact H) | (have H2_ := (Option.bind_some _ _).symm.trans H; rw [hy175]; with_reducible exact H2_) | (have H2_ := (Option.bind_some _ _).symm.trans H; with_reducible exact H2_) | with_reducible exact H | (rw [hy175]; exact H) | exact H
      have Ny175 := Aside0.mk hy175; clear hy175
      by_cases c23 : true = true
      ·clear c23
       replace H := ifT_ H
       obtain ⟨c24, H⟩ := ifS_ H
       have LMc24 := Aside0.mk c24; clear c24
       obtain ⟨y177, hy177⟩ : ∃ y_ : List Int, y_ = (x4_1 ++ [wrap64 (x19_1 + 1)]) := ⟨_, rfl⟩
       replace H : (impl_Stuck.l0 k1 y175 y177 l0_0 (l0_0.length : Int) (wrap64 (x19_1 + 1)) l0_0 l0_1 a0_2 l0_3) = some r := by first | (rw [hy177]; with_reducible exact H) | (have H2_ := (Option.bind_some _ _).symm.trans H; rw [hy177]; with_reducible exact H2_) | (have H2_ := (Option.bind_some _ _).symm.trans H; with_reducible exact H2_) | with_reducible exact H | (rw [hy177]; exact H) | exact H
       have Ny177 := Aside0.mk hy177; clear hy177; have H' := Aside0.mk H; clear H
       have p172 : 0 ≤ (x19_1 : Int) := dA_
       have q172 : x19_1 < (l0_0.length : Int) := dA_
       obtain ⟨ad172, A172_0, c172_0, e172, hx172_0, hx172_1, hx172_2, hx172_3, hl172_0, hi172_0⟩ := at_T39 HR0_0.out x19_1 p172 q172
       cases e172
       replace hx172_0 := hX_ HB hx172_0
       replace hx172_1 := hX_ HB hx172_1
       replace hx172_2 := hX_ HB hx172_2
       replace hx172_3 := hX_ HB hx172_3
       have HR172_0 := Aside0.mk hi172_0; have HC172_0 := Aside0.mk hl172_0; clear hi172_0 hl172_0; replace p172 := eq_true p172; replace q172 := eq_true q172
       try go_wp2_with (first | ((with_reducible refine gate_dst (N := 6) rfl ?_); refine box_event ?hg (N := 6) ?hd (cs := #[.slice none 0 0, .int .i64 0, .int .i64 0, .int .i64 0]) (t := 39) ?hr ?_; (case hd => rfl); (case hg => rfl); (case hr => first | (go_simp; done) | (go_simp; rfl)); intro gb173 hg w25 hbox hb; have n0_ := rB_ HO_3 hb; have n1_ := rB_ HO_4 hb; have n2_ := bB_ BK164 hb; have s2_ := Aside0.mk (blk_below (g := gbS) (bT_ BKS) hb); have n3_ := bS_ HB hb; have n4_ := Aside0.mk (hbox); have n5_ := gE_ HB hg; have n6_ := gE_ HB hg; have n7_ := nL_ BK164 hg; have s7_ := Aside0.mk ((by rw [hg]; exact Nat.ne_of_lt (blk_lt (g := gbS) (bT_ BKS)) : gbS ≠ gb173)); have n8_ := nG_ BK164 hg; have s8_ := Aside0.mk ((by rw [hg]; exact Nat.ne_of_gt (blk_lt (g := gbS) (bT_ BKS)) : gb173 ≠ gbS)); clear HO_3; clear HO_4; clear BK164 BKS; clear HB; have HO_3 := n0_; have HO_4 := n1_; have BK164 := n2_; have BKS := s2_; clear s2_; have HB := n3_; have BK173 := n4_; have GW173 := n5_; have GE173 := n6_; have NB164_173 := n7_; have NBS_173 := s7_; clear s7_; have NB173_164 := n8_; have NB173_S := s8_; clear s8_; clear n0_ n1_ n2_ n3_ n4_ n5_ n6_ n7_ n8_; clear hb hbox hg; have hnb26 := NB173_164.out; have hnc26 := NB164_173.out; obtain ⟨hcz27_0, hcz27_1, hcz27_2, hcz27_3, hfz27_0, hfz27_1, hfz27_2, hfz27_3⟩ := cf4_ BK173))
       have n0_ : Aside0 (Kd.R Kd.bool 4 ((((w25.setCell ⟨gb173, 0, none⟩ (.slice A172_0 ((rd_T39 l0_0 x19_1).f0).length c172_0)).setCell ⟨gb173, 1, none⟩ (.int .i64 ((rd_T39 l0_0 x19_1).f1))).setCell ⟨gb173, 2, none⟩ (.int .i64 ((rd_T39 l0_0 x19_1).f2))).setCell ⟨gb173, 3, none⟩ (.int .i64 ((rd_T39 l0_0 x19_1).f3))) w.heap.size (fun _ => True) v167 x3_1) := ⟨rFM_ HO_3 BK173⟩
       have n1_ : Aside0 (Kd.R (Kd.int .i64) 2 ((((w25.setCell ⟨gb173, 0, none⟩ (.slice A172_0 ((rd_T39 l0_0 x19_1).f0).length c172_0)).setCell ⟨gb173, 1, none⟩ (.int .i64 ((rd_T39 l0_0 x19_1).f1))).setCell ⟨gb173, 2, none⟩ (.int .i64 ((rd_T39 l0_0 x19_1).f2))).setCell ⟨gb173, 3, none⟩ (.int .i64 ((rd_T39 l0_0 x19_1).f3))) w.heap.size (fun _ => True) u4 x4_1) := ⟨rFM_ HO_4 BK173⟩
       have n2_ : Aside0 (((((w25.setCell ⟨gb173, 0, none⟩ (.slice A172_0 ((rd_T39 l0_0 x19_1).f0).length c172_0)).setCell ⟨gb173, 1, none⟩ (.int .i64 ((rd_T39 l0_0 x19_1).f1))).setCell ⟨gb173, 2, none⟩ (.int .i64 ((rd_T39 l0_0 x19_1).f2))).setCell ⟨gb173, 3, none⟩ (.int .i64 ((rd_T39 l0_0 x19_1).f3))).heap[gb164]? = some (.cells #[.slice (some ad172) l0_0.length c0_0, .slice A0_1 l0_1.length c0_1, .int .i64 a0_2, .slice A0_3 l0_3.length c0_3] 31 (0, 0))) := ⟨bF_ BK164 NB164_173⟩; have s2_ : Aside0 (((((w25.setCell ⟨gb173, 0, none⟩ (.slice A172_0 ((rd_T39 l0_0 x19_1).f0).length c172_0)).setCell ⟨gb173, 1, none⟩ (.int .i64 ((rd_T39 l0_0 x19_1).f1))).setCell ⟨gb173, 2, none⟩ (.int .i64 ((rd_T39 l0_0 x19_1).f2))).setCell ⟨gb173, 3, none⟩ (.int .i64 ((rd_T39 l0_0 x19_1).f3))).heap[gbS]? = some (.cells #[v167] 34 (0, 0))) := ⟨by (with_reducible repeat (first | refine blk_drewN ?_ _ | refine blk_drew ?_ | refine blk_alloc ?_ _)); refine blk_far ?_ NBS_173.out _; (with_reducible repeat (first | refine blk_drewN ?_ _ | refine blk_drew ?_ | refine blk_alloc ?_ _)); refine blk_far ?_ NBS_173.out _; (with_reducible repeat (first | refine blk_drewN ?_ _ | refine blk_drew ?_ | refine blk_alloc ?_ _)); refine blk_far ?_ NBS_173.out _; (with_reducible repeat (first | refine blk_drewN ?_ _ | refine blk_drew ?_ | refine blk_alloc ?_ _)); refine blk_far ?_ NBS_173.out _; (with_reducible repeat (first | refine blk_drewN ?_ _ | refine blk_drew ?_ | refine blk_alloc ?_ _)); exact BKS.out⟩
       have n3_ : Aside0 (((((w25.setCell ⟨gb173, 0, none⟩ (.slice A172_0 ((rd_T39 l0_0 x19_1).f0).length c172_0)).setCell ⟨gb173, 1, none⟩ (.int .i64 ((rd_T39 l0_0 x19_1).f1))).setCell ⟨gb173, 2, none⟩ (.int .i64 ((rd_T39 l0_0 x19_1).f2))).setCell ⟨gb173, 3, none⟩ (.int .i64 ((rd_T39 l0_0 x19_1).f3))).heap[gb173]? = some (.cells #[.slice A172_0 ((rd_T39 l0_0 x19_1).f0).length c172_0, .int .i64 ((rd_T39 l0_0 x19_1).f1), .int .i64 ((rd_T39 l0_0 x19_1).f2), .int .i64 ((rd_T39 l0_0 x19_1).f3)] 39 (0, 0))) := ⟨bP_ BK173⟩
       have n4_ : Aside0 (Below w.heap.size w ((((w25.setCell ⟨gb173, 0, none⟩ (.slice A172_0 ((rd_T39 l0_0 x19_1).f0).length c172_0)).setCell ⟨gb173, 1, none⟩ (.int .i64 ((rd_T39 l0_0 x19_1).f1))).setCell ⟨gb173, 2, none⟩ (.int .i64 ((rd_T39 l0_0 x19_1).f2))).setCell ⟨gb173, 3, none⟩ (.int .i64 ((rd_T39 l0_0 x19_1).f3)))) := ⟨sABelo_8⟩
       (try clear HO_3); (try clear HO_4); (try clear BK164 BKS); (try clear BK173); (try clear HB)
       generalize ((((w25.setCell ⟨gb173, 0, none⟩ (.slice A172_0 ((rd_T39 l0_0 x19_1).f0).length c172_0)).setCell ⟨gb173, 1, none⟩ (.int .i64 ((rd_T39 l0_0 x19_1).f1))).setCell ⟨gb173, 2, none⟩ (.int .i64 ((rd_T39 l0_0 x19_1).f2))).setCell ⟨gb173, 3, none⟩ (.int .i64 ((rd_T39 l0_0 x19_1).f3))) = w28 at n0_ n1_ n2_ n3_ n4_ s2_ ⊢
       have HO_3 := n0_; have HO_4 := n1_
       have BK164 := n2_; have BKS := s2_; clear s2_; have BK173 := n3_; have HB := n4_; clear n0_ n1_ n2_ n3_ n4_
       have n0_ := Aside0.mk (Kd.R_drew HO_3.out)
       have n1_ := Aside0.mk (Kd.R_drew HO_4.out)
       have n2_ := Aside0.mk (blk_drew BK164.out); have s2_ := Aside0.mk (blk_drew BKS.out)
       have n3_ := Aside0.mk (blk_drew BK173.out)
       have n4_ := Aside0.mk (below_drew1 HB.out)
       clear HO_3 HO_4 BK164 BKS BK173 HB; have HO_3 := n0_; have HO_4 := n1_
       have BK164 := n2_; have BKS := s2_; clear s2_; have BK173 := n3_; have HB := n4_; clear n0_ n1_ n2_ n3_ n4_
       have p174 : 0 ≤ (x19_1 : Int) := dA_
       have q174 : x19_1 < (l0_3.length : Int) := dA_
       obtain ⟨ad174, e174, hx174_0, hx174_1⟩ := at_T43 HR0_3.out x19_1 p174 q174
       have hw174_1 := hx174_1; have hw174_0 := hx174_0
       cases e174
       replace hx174_0 := hX_ HB hx174_0
       replace hx174_1 := hX_ HB hx174_1
       replace p174 := eq_true p174; replace q174 := eq_true q174
       have p21 : 0 ≤ (x19_1 : Int) := dA_
       have q21 : (x19_1 : Int) < ((x3_1.length : Int) : Int) := dA_
       obtain ⟨go21, co21, eo21, gb21, gl21, cl21, HG21⟩ := Kd.R_form HO_3.out (by omega)
       (first | cases eo21 | (injection eo21 with ea_ en_ ec_; (first | subst ea_ | (injection ea_ with ea_; subst ea_)); subst ec_; clear en_))
       have GB21 := Aside0.mk gb21; have GG21 := Aside0.mk HG21; clear gb21 gl21 HG21
       obtain ⟨hx21_0, hf21_0⟩ := Kd.R_celln false HO_3.out (x19_1 : Int) p21 q21
       replace p21 := eq_true p21; replace q21 := eq_true q21
       have HP30 := Kd.R_putn HO_3.out (x19_1 : Int) true
       rw [← Ny175.out] at HP30
       have HQ30 := Aside0.mk HP30; clear HP30
       refine start_ (n := 17) (S := fun w' => w'.cell? ⟨gb164, 0, none⟩ = some (.slice (some ad172) l0_0.length c0_0) ∧ w'.cell? ⟨gb164, 1, none⟩ = some (.slice A0_1 l0_1.length c0_1) ∧ w'.cell? ⟨gb164, 2, none⟩ = some (.int .i64 a0_2) ∧ w'.cell? ⟨gb164, 3, none⟩ = some (.slice (some ad174) l0_3.length c0_3) ∧ w'.cell? (ad174.add ((x19_1).toNat * 2)) = some (.int .i64 ((rd_T43 l0_3 x19_1).f0)) ∧ w'.cell? ⟨(ad174.add ((x19_1).toNat * 2)).block, (ad174.add ((x19_1).toNat * 2)).off + 1, none⟩ = some (.int .i64 ((rd_T43 l0_3 x19_1).f1)) ∧ w'.cell? ⟨gbS, 0, none⟩ = some (.slice (some ⟨go21, 0, none⟩) x3_1.length co21)) (ds := [16]) #[false, false, false, false, false, false, false, false, false, false, false, false, false, false, false, false, false] (by kernel_rfl) rfl rfl ⟨(blk_cell BK164.out 0).trans rfl, (blk_cell BK164.out 1).trans rfl, (blk_cell BK164.out 2).trans rfl, (blk_cell BK164.out 3).trans rfl, ((HB.out.cell (World.block_lt_of_cell? w _ hw174_0)).trans hw174_0), ((HB.out.cell (World.block_lt_of_cell? w _ hw174_1)).trans hw174_1), (blk_cell BKS.out 0).trans rfl⟩ (fun hHeld => ?_); refine with_tabW impl_Stuck.tab8 impl_Stuck.bits8 (fun HT_ HW_ => ?_)
       generalize w28.drew = w29 at HO_3 HO_4 BK164 BKS BK173 HB GG21 HQ30 hf21_0 hx174_0 hx174_1 hx21_0 hHeld ⊢
       refine tT_ 0 (some 24) #[true, false, false, false, false, false, false, false, false, false, false, false, false, false, false, false, false] HT_ HW_ hHeld ?_ (hy := by rintro w' ⟨s0, s1, s2, s3, s4, s5, s6⟩; go_simp; with_reducible rfl)
       refine pT_ 1 (some 25) #[true, true, false, false, false, false, false, false, false, false, false, false, false, false, false, false, false] HT_ ?_
       refine pT_ 2 (some 26) #[true, true, true, false, false, false, false, false, false, false, false, false, false, false, false, false, false] HT_ ?_
       refine pT_ 4 (some 28) #[true, true, true, false, true, false, false, false, false, false, false, false, false, false, false, false, false] HT_ ?_
       refine tT_ 3 (some 27) #[true, true, true, true, true, false, false, false, false, false, false, false, false, false, false, false, false] HT_ HW_ hHeld ?_ (hy := by rintro w' ⟨s0, s1, s2, s3, s4, s5, s6⟩; go_simp; with_reducible rfl)
       refine pT_ 5 (some 29) #[true, true, true, true, true, true, false, false, false, false, false, false, false, false, false, false, false] HT_ ?_
       refine pT_ 6 (some 30) #[true, true, true, true, true, true, true, false, false, false, false, false, false, false, false, false, false] HT_ ?_
       refine tT_ 7 (some 31) #[true, true, true, true, true, true, true, true, false, false, false, false, false, false, false, false, false] HT_ HW_ hHeld ?_ (hy := by rintro w' ⟨s0, s1, s2, s3, s4, s5, s6⟩; go_simp; with_reducible rfl)
       refine pT_ 8 (some 32) #[true, true, true, true, true, true, true, true, true, false, false, false, false, false, false, false, false] HT_ ?_
       refine pT_ 9 (some 33) #[true, true, true, true, true, true, true, true, true, true, false, false, false, false, false, false, false] HT_ ?_
       refine pU_ 10 (some 34) #[true, true, true, true, true, true, true, true, true, true, true, false, false, false, false, false, false] HT_ ?_
       refine pU_ 11 (some 35) #[true, true, true, true, true, true, true, true, true, true, true, true, false, false, false, false, false] HT_ ?_
       refine pU_ 12 (some 36) #[true, true, true, true, true, true, true, true, true, true, true, true, true, false, false, false, false] HT_ ?_
       refine pU_ 13 (some 37) #[true, true, true, true, true, true, true, true, true, true, true, true, true, true, false, false, false] HT_ ?_
       refine pT_ 14 (some 38) #[true, true, true, true, true, true, true, true, true, true, true, true, true, true, true, false, false] HT_ ?_
       refine pT_ 15 (some 39) #[true, true, true, true, true, true, true, true, true, true, true, true, true, true, true, true, false] HT_ ?_
       refine last_ (i := 16) (N := none) #[true, true, true, true, true, true, true, true, true, true, true, true, true, true, true, true, true] rfl rfl (one_of HT_.out (by kernel_rfl)) (by decide) (fun K hK => ?_)
       refine skip_ (w1 := ?_) (by rfl) rfl ?_ ?_
       rotate_left
       ·go_simp
        rfl
       refine hK.out _ _ ?_
       clear hK K
       refine done_ (done_of HT_.out (by kernel_rfl)) ?_
       have hneS : gbS ≠ go21 := (by have h_ := Kd.R_ne HO_3.out BKS.out (by decide); intro e_; exact h_ (by rw [e_]; rfl)); have hneT := Ne.symm hneS; have hczS : (w29).cell? ⟨gbS, 0, none⟩ = some _ := (blk_cell BKS.out 0).trans rfl; have hfzS := blk_frozen BKS.out 0
       have p22 : 0 ≤ (x19_1 : Int) := dA_
       have q22 : (x19_1 : Int) < ((x3_1.length : Int) : Int) := dA_
       replace p22 := eq_true p22; replace q22 := eq_true q22
       try go_wp2_with (first | ((with_reducible refine gate_builtin (b := .append) (xs := #[.tmp 44, .tmp 47]) rfl ?_); at_builtin; refine Kd.R_append (Kd.int .i64) (w0 := w) w.heap.size rfl (.tmp 44) (.tmp 47) 25 2 (.int .i64 0) 8 rfl Try.underlying25 info2 rfl (by decide) (by omega) u4 x4_1 (wrap64 (x19_1 + 1)) [.int .i64 (wrap64 (x19_1 + 1))] (fun _ => True) (fun _ => False) rfl (by first | (go_simp; done) | (go_simp; rfl)) ?aP (fun _ hk => hk.elim) ?aF ?aO ?aB ?aS ?aL ?_; (case aP => exact rfl); (case aB => exact sABelo_8); (case aF => exact (fun _ _ => trivial)); (case aO => exact (by (with_reducible repeat (first | apply Kd.R_alloc | apply Kd.R_drewN | apply Kd.R_drew)); exact Kd.R_mono (Kd.R_far (p := ⟨go21, (x19_1 : Int).toNat, none⟩) (Kd.R_types HO_4.out GG21.out (by decide)) (fun _ hk => hk.2) (.bool true)) (fun _ hk => trivial))); (case aS => exact (below_size sABelo_8)); (case aL => have := LMc24.out; omega); intro v178 w31 ho hb hg hat; rw [← Ny177.out] at ho; have n0_ := Aside0.mk (Kd.R_over' (by (with_reducible repeat (first | apply Kd.R_alloc | apply Kd.R_drewN | apply Kd.R_drew)); exact HQ30.out) (Kd.R_typed (by (with_reducible repeat (first | apply Kd.R_alloc | apply Kd.R_drewN | apply Kd.R_drew)); exact (Kd.R_mono (Kd.R_far (p := ⟨go21, (x19_1 : Int).toNat, none⟩) (Kd.R_types HO_4.out GG21.out (by decide)) (fun _ hk => hk.2) (.bool true)) (fun _ h_ => h_.1)))) (by decide) hg); have n1_ := Aside0.mk (blk_grown (g := gb164) (o := .cells #[.slice (some ad172) l0_0.length c0_0, .slice A0_1 l0_1.length c0_1, .int .i64 a0_2, .slice (some ad174) l0_3.length c0_3] 31 (0, 0)) (by (with_reducible repeat (first | refine blk_drewN ?_ _ | refine blk_drew ?_ | refine blk_alloc ?_ _)); refine blk_far ?_ (by have h_ := Kd.R_ne HO_3.out BK164.out (by decide); intro e_; exact h_ (by rw [e_]; rfl)) _; exact bT_ BK164) hg (Kd.R_ne HO_4.out BK164.out (by decide))); have s1_ := Aside0.mk (blk_grown (g := gbS) (o := .cells #[.slice (some ⟨go21, 0, none⟩) x3_1.length co21] 34 (0, 0)) (by (with_reducible repeat (first | refine blk_drewN ?_ _ | refine blk_drew ?_ | refine blk_alloc ?_ _)); refine blk_far ?_ (by have h_ := Kd.R_ne HO_3.out BKS.out (by decide); intro e_; exact h_ (by rw [e_]; rfl)) _; (with_reducible repeat (first | refine blk_drewN ?_ _ | refine blk_drew ?_ | refine blk_alloc ?_ _)); exact BKS.out) hg (Kd.R_ne HO_4.out BKS.out (by decide))); have n2_ := Aside0.mk (blk_grown (g := gb173) (o := .cells #[.slice A172_0 ((rd_T39 l0_0 x19_1).f0).length c172_0, .int .i64 ((rd_T39 l0_0 x19_1).f1), .int .i64 ((rd_T39 l0_0 x19_1).f2), .int .i64 ((rd_T39 l0_0 x19_1).f3)] 39 (0, 0)) (by (with_reducible repeat (first | refine blk_drewN ?_ _ | refine blk_drew ?_ | refine blk_alloc ?_ _)); refine blk_far ?_ (by have h_ := Kd.R_ne HO_3.out BK173.out (by decide); intro e_; exact h_ (by rw [e_]; rfl)) _; exact bT_ BK173) hg (Kd.R_ne HO_4.out BK173.out (by decide))); have n3_ := Aside0.mk (hb); have n4_ := Aside0.mk (ho); clear HO_3; clear BK164 BKS; clear BK173; clear HB; clear HO_4; have HO_3 := n0_; have BK164 := n1_; have BKS := s1_; clear s1_; have BK173 := n2_; have HB := n3_; have HO179 := n4_; clear n0_ n1_ n2_ n3_ n4_; clear ho hb hg hat))
       go_roundg k1
       case measure => have := HK1.out; omega
       case rel => exact ⟨(y175), (y177), (wrap64 (x19_1 + 1)), (by first | rfl | (simp; done) | (simp [*]; done)), H', ⟨by have := HK1.out; omega⟩, ⟨rT_ HO_3⟩, ⟨rT_ HO179⟩, ⟨bT_ BK164⟩, ⟨by (with_reducible repeat (first | refine blk_drewN ?_ _ | refine blk_drew ?_ | refine blk_alloc ?_ _)); exact BKS.out⟩, ⟨sABelo_8⟩⟩
      ·exact absurd rfl c23
     ·rw [if_neg c19] at H
      have c19b0 := beq_eq_false_iff_ne.mpr c19
      have c19b1 := bne_iff_ne.mpr c19
      replace H := Option.bind_eq_some_iff.mp H
      obtain ⟨t180, A380, H⟩ := H
      replace H : (if x19_1 < (x3_1.length : Int) then ((some (x3_1.set (x19_1 : Int).toNat t180 : List Bool)).bind fun y181 => (if t180 = true then (if x4_1.length < 17592186044416 then (impl_Stuck.l0 k1 y181 (x4_1 ++ [wrap64 (x19_1 + 1)]) l0_0 (l0_0.length : Int) (wrap64 (x19_1 + 1)) l0_0 l0_1 a0_2 l0_3) else (none)) else (impl_Stuck.l0 k1 y181 x4_1 l0_0 (l0_0.length : Int) (wrap64 (x19_1 + 1)) l0_0 l0_1 a0_2 l0_3))) else (none)) = some r := H
      have A38 := Aside0.mk A380; clear A380
      obtain ⟨c39, H⟩ := ifS_ H
      have c39b0 : decide (x19_1 < (x3_1.length : Int)) = true := decide_eq_true c39
      clear c39
      obtain ⟨y181, hy181⟩ : ∃ y_ : List Bool, y_ = (x3_1.set (x19_1 : Int).toNat t180) := ⟨_, rfl⟩
      replace H : (if t180 = true then (if x4_1.length < 17592186044416 then (impl_Stuck.l0 k1 y181 (x4_1 ++ [wrap64 (x19_1 + 1)]) l0_0 (l0_0.length : Int) (wrap64 (x19_1 + 1)) l0_0 l0_1 a0_2 l0_3) else (none)) else (impl_Stuck.l0 k1 y181 x4_1 l0_0 (l0_0.length : Int) (wrap64 (x19_1 + 1)) l0_0 l0_1 a0_2 l0_3)) = some r := by first | (rw [hy181]; with_reducible exact H) | (have H2_ := (Option.bind_some _ _).symm.trans H; rw [hy181]; with_reducible exact H2_) | (have H2_ := (Option.bind_some _ _).symm.trans H; with_reducible exact H2_) | with_reducible exact H | (rw [hy181]; exact H) | exact H
      have Ny181 := Aside0.mk hy181; clear hy181
      by_cases c42 : t180 = true
      ·subst c42
       replace H := ifT_ H
       obtain ⟨c43, H⟩ := ifS_ H
       have LMc43 := Aside0.mk c43; clear c43
       obtain ⟨y183, hy183⟩ : ∃ y_ : List Int, y_ = (x4_1 ++ [wrap64 (x19_1 + 1)]) := ⟨_, rfl⟩
       replace H : (impl_Stuck.l0 k1 y181 y183 l0_0 (l0_0.length : Int) (wrap64 (x19_1 + 1)) l0_0 l0_1 a0_2 l0_3) = some r := by first | (rw [hy183]; with_reducible exact H) | (have H2_ := (Option.bind_some _ _).symm.trans H; rw [hy183]; with_reducible exact H2_) | (have H2_ := (Option.bind_some _ _).symm.trans H; with_reducible exact H2_) | with_reducible exact H | (rw [hy183]; exact H) | exact H
       have Ny183 := Aside0.mk hy183; clear hy183; have H' := Aside0.mk H; clear H
       have p172 : 0 ≤ (x19_1 : Int) := dA_
       have q172 : x19_1 < (l0_0.length : Int) := dA_
       obtain ⟨ad172, A172_0, c172_0, e172, hx172_0, hx172_1, hx172_2, hx172_3, hl172_0, hi172_0⟩ := at_T39 HR0_0.out x19_1 p172 q172
       cases e172
       replace hx172_0 := hX_ HB hx172_0
       replace hx172_1 := hX_ HB hx172_1
       replace hx172_2 := hX_ HB hx172_2
       replace hx172_3 := hX_ HB hx172_3
       have HR172_0 := Aside0.mk hi172_0; have HC172_0 := Aside0.mk hl172_0; clear hi172_0 hl172_0; replace p172 := eq_true p172; replace q172 := eq_true q172
       try go_wp2_with (first | ((with_reducible refine gate_dst (N := 6) rfl ?_); refine box_event ?hg (N := 6) ?hd (cs := #[.slice none 0 0, .int .i64 0, .int .i64 0, .int .i64 0]) (t := 39) ?hr ?_; (case hd => rfl); (case hg => rfl); (case hr => first | (go_simp; done) | (go_simp; rfl)); intro gb173 hg w44 hbox hb; have n0_ := rB_ HO_3 hb; have n1_ := rB_ HO_4 hb; have n2_ := bB_ BK164 hb; have s2_ := Aside0.mk (blk_below (g := gbS) (bT_ BKS) hb); have n3_ := bS_ HB hb; have n4_ := Aside0.mk (hbox); have n5_ := gE_ HB hg; have n6_ := gE_ HB hg; have n7_ := nL_ BK164 hg; have s7_ := Aside0.mk ((by rw [hg]; exact Nat.ne_of_lt (blk_lt (g := gbS) (bT_ BKS)) : gbS ≠ gb173)); have n8_ := nG_ BK164 hg; have s8_ := Aside0.mk ((by rw [hg]; exact Nat.ne_of_gt (blk_lt (g := gbS) (bT_ BKS)) : gb173 ≠ gbS)); clear HO_3; clear HO_4; clear BK164 BKS; clear HB; have HO_3 := n0_; have HO_4 := n1_; have BK164 := n2_; have BKS := s2_; clear s2_; have HB := n3_; have BK173 := n4_; have GW173 := n5_; have GE173 := n6_; have NB164_173 := n7_; have NBS_173 := s7_; clear s7_; have NB173_164 := n8_; have NB173_S := s8_; clear s8_; clear n0_ n1_ n2_ n3_ n4_ n5_ n6_ n7_ n8_; clear hb hbox hg; have hnb45 := NB173_164.out; have hnc45 := NB164_173.out; obtain ⟨hcz46_0, hcz46_1, hcz46_2, hcz46_3, hfz46_0, hfz46_1, hfz46_2, hfz46_3⟩ := cf4_ BK173))
       have n0_ : Aside0 (Kd.R Kd.bool 4 ((((w44.setCell ⟨gb173, 0, none⟩ (.slice A172_0 ((rd_T39 l0_0 x19_1).f0).length c172_0)).setCell ⟨gb173, 1, none⟩ (.int .i64 ((rd_T39 l0_0 x19_1).f1))).setCell ⟨gb173, 2, none⟩ (.int .i64 ((rd_T39 l0_0 x19_1).f2))).setCell ⟨gb173, 3, none⟩ (.int .i64 ((rd_T39 l0_0 x19_1).f3))) w.heap.size (fun _ => True) v167 x3_1) := ⟨rFM_ HO_3 BK173⟩
       have n1_ : Aside0 (Kd.R (Kd.int .i64) 2 ((((w44.setCell ⟨gb173, 0, none⟩ (.slice A172_0 ((rd_T39 l0_0 x19_1).f0).length c172_0)).setCell ⟨gb173, 1, none⟩ (.int .i64 ((rd_T39 l0_0 x19_1).f1))).setCell ⟨gb173, 2, none⟩ (.int .i64 ((rd_T39 l0_0 x19_1).f2))).setCell ⟨gb173, 3, none⟩ (.int .i64 ((rd_T39 l0_0 x19_1).f3))) w.heap.size (fun _ => True) u4 x4_1) := ⟨rFM_ HO_4 BK173⟩
       have n2_ : Aside0 (((((w44.setCell ⟨gb173, 0, none⟩ (.slice A172_0 ((rd_T39 l0_0 x19_1).f0).length c172_0)).setCell ⟨gb173, 1, none⟩ (.int .i64 ((rd_T39 l0_0 x19_1).f1))).setCell ⟨gb173, 2, none⟩ (.int .i64 ((rd_T39 l0_0 x19_1).f2))).setCell ⟨gb173, 3, none⟩ (.int .i64 ((rd_T39 l0_0 x19_1).f3))).heap[gb164]? = some (.cells #[.slice (some ad172) l0_0.length c0_0, .slice A0_1 l0_1.length c0_1, .int .i64 a0_2, .slice A0_3 l0_3.length c0_3] 31 (0, 0))) := ⟨bF_ BK164 NB164_173⟩; have s2_ : Aside0 (((((w44.setCell ⟨gb173, 0, none⟩ (.slice A172_0 ((rd_T39 l0_0 x19_1).f0).length c172_0)).setCell ⟨gb173, 1, none⟩ (.int .i64 ((rd_T39 l0_0 x19_1).f1))).setCell ⟨gb173, 2, none⟩ (.int .i64 ((rd_T39 l0_0 x19_1).f2))).setCell ⟨gb173, 3, none⟩ (.int .i64 ((rd_T39 l0_0 x19_1).f3))).heap[gbS]? = some (.cells #[v167] 34 (0, 0))) := ⟨by (with_reducible repeat (first | refine blk_drewN ?_ _ | refine blk_drew ?_ | refine blk_alloc ?_ _)); refine blk_far ?_ NBS_173.out _; (with_reducible repeat (first | refine blk_drewN ?_ _ | refine blk_drew ?_ | refine blk_alloc ?_ _)); refine blk_far ?_ NBS_173.out _; (with_reducible repeat (first | refine blk_drewN ?_ _ | refine blk_drew ?_ | refine blk_alloc ?_ _)); refine blk_far ?_ NBS_173.out _; (with_reducible repeat (first | refine blk_drewN ?_ _ | refine blk_drew ?_ | refine blk_alloc ?_ _)); refine blk_far ?_ NBS_173.out _; (with_reducible repeat (first | refine blk_drewN ?_ _ | refine blk_drew ?_ | refine blk_alloc ?_ _)); exact BKS.out⟩
       have n3_ : Aside0 (((((w44.setCell ⟨gb173, 0, none⟩ (.slice A172_0 ((rd_T39 l0_0 x19_1).f0).length c172_0)).setCell ⟨gb173, 1, none⟩ (.int .i64 ((rd_T39 l0_0 x19_1).f1))).setCell ⟨gb173, 2, none⟩ (.int .i64 ((rd_T39 l0_0 x19_1).f2))).setCell ⟨gb173, 3, none⟩ (.int .i64 ((rd_T39 l0_0 x19_1).f3))).heap[gb173]? = some (.cells #[.slice A172_0 ((rd_T39 l0_0 x19_1).f0).length c172_0, .int .i64 ((rd_T39 l0_0 x19_1).f1), .int .i64 ((rd_T39 l0_0 x19_1).f2), .int .i64 ((rd_T39 l0_0 x19_1).f3)] 39 (0, 0))) := ⟨bP_ BK173⟩
       have n4_ : Aside0 (Below w.heap.size w ((((w44.setCell ⟨gb173, 0, none⟩ (.slice A172_0 ((rd_T39 l0_0 x19_1).f0).length c172_0)).setCell ⟨gb173, 1, none⟩ (.int .i64 ((rd_T39 l0_0 x19_1).f1))).setCell ⟨gb173, 2, none⟩ (.int .i64 ((rd_T39 l0_0 x19_1).f2))).setCell ⟨gb173, 3, none⟩ (.int .i64 ((rd_T39 l0_0 x19_1).f3)))) := ⟨sABelo_8⟩
       (try clear HO_3); (try clear HO_4); (try clear BK164 BKS); (try clear BK173); (try clear HB)
       generalize ((((w44.setCell ⟨gb173, 0, none⟩ (.slice A172_0 ((rd_T39 l0_0 x19_1).f0).length c172_0)).setCell ⟨gb173, 1, none⟩ (.int .i64 ((rd_T39 l0_0 x19_1).f1))).setCell ⟨gb173, 2, none⟩ (.int .i64 ((rd_T39 l0_0 x19_1).f2))).setCell ⟨gb173, 3, none⟩ (.int .i64 ((rd_T39 l0_0 x19_1).f3))) = w47 at n0_ n1_ n2_ n3_ n4_ s2_ ⊢
       have HO_3 := n0_; have HO_4 := n1_
       have BK164 := n2_; have BKS := s2_; clear s2_; have BK173 := n3_; have HB := n4_; clear n0_ n1_ n2_ n3_ n4_
       have n0_ := Aside0.mk (Kd.R_drew HO_3.out)
       have n1_ := Aside0.mk (Kd.R_drew HO_4.out)
       have n2_ := Aside0.mk (blk_drew BK164.out); have s2_ := Aside0.mk (blk_drew BKS.out)
       have n3_ := Aside0.mk (blk_drew BK173.out)
       have n4_ := Aside0.mk (below_drew1 HB.out)
       clear HO_3 HO_4 BK164 BKS BK173 HB; have HO_3 := n0_; have HO_4 := n1_
       have BK164 := n2_; have BKS := s2_; clear s2_; have BK173 := n3_; have HB := n4_; clear n0_ n1_ n2_ n3_ n4_
       have p174 : 0 ≤ (x19_1 : Int) := dA_
       have q174 : x19_1 < (l0_3.length : Int) := dA_
       obtain ⟨ad174, e174, hx174_0, hx174_1⟩ := at_T43 HR0_3.out x19_1 p174 q174
       have hw174_1 := hx174_1; have hw174_0 := hx174_0
       cases e174
       replace hx174_0 := hX_ HB hx174_0
       replace hx174_1 := hX_ HB hx174_1
       replace p174 := eq_true p174; replace q174 := eq_true q174
       obtain ⟨Ao49, co49, eo49⟩ := Kd.R_slice HO_3.out
       (first | subst eo49 | (injection eo49 with f1_ f2_ f3_; have f4_ := f1_.symm; have f5_ := f3_.symm; clear f1_ f2_ f3_; subst f4_; subst f5_))
       refine start_ (n := 17) (S := fun w' => w'.cell? ⟨gb164, 0, none⟩ = some (.slice (some ad172) l0_0.length c0_0) ∧ w'.cell? ⟨gb164, 1, none⟩ = some (.slice A0_1 l0_1.length c0_1) ∧ w'.cell? ⟨gb164, 2, none⟩ = some (.int .i64 a0_2) ∧ w'.cell? ⟨gb164, 3, none⟩ = some (.slice (some ad174) l0_3.length c0_3) ∧ w'.cell? ⟨gb173, 0, none⟩ = some (.slice A172_0 ((rd_T39 l0_0 x19_1).f0).length c172_0) ∧ w'.cell? ⟨gb173, 1, none⟩ = some (.int .i64 ((rd_T39 l0_0 x19_1).f1)) ∧ w'.cell? ⟨gb173, 2, none⟩ = some (.int .i64 ((rd_T39 l0_0 x19_1).f2)) ∧ w'.cell? ⟨gb173, 3, none⟩ = some (.int .i64 ((rd_T39 l0_0 x19_1).f3)) ∧ w'.cell? (ad174.add ((x19_1).toNat * 2)) = some (.int .i64 ((rd_T43 l0_3 x19_1).f0)) ∧ w'.cell? ⟨(ad174.add ((x19_1).toNat * 2)).block, (ad174.add ((x19_1).toNat * 2)).off + 1, none⟩ = some (.int .i64 ((rd_T43 l0_3 x19_1).f1)) ∧ w'.cell? ⟨gbS, 0, none⟩ = some (.slice Ao49 x3_1.length co49)) (ds := [16]) #[false, false, false, false, false, false, false, false, false, false, false, false, false, false, false, false, false] (by kernel_rfl) rfl rfl ⟨(blk_cell BK164.out 0).trans rfl, (blk_cell BK164.out 1).trans rfl, (blk_cell BK164.out 2).trans rfl, (blk_cell BK164.out 3).trans rfl, (blk_cell BK173.out 0).trans rfl, (blk_cell BK173.out 1).trans rfl, (blk_cell BK173.out 2).trans rfl, (blk_cell BK173.out 3).trans rfl, ((HB.out.cell (World.block_lt_of_cell? w _ hw174_0)).trans hw174_0), ((HB.out.cell (World.block_lt_of_cell? w _ hw174_1)).trans hw174_1), (blk_cell BKS.out 0).trans rfl⟩ (fun hHeld => ?_); refine with_tabW impl_Stuck.tab8 impl_Stuck.bits8 (fun HT_ HW_ => ?_)
       generalize w47.drew = w48 at HO_3 HO_4 BK164 BKS BK173 HB hx174_0 hx174_1 hHeld ⊢
       refine tT_ 0 (some 24) #[true, false, false, false, false, false, false, false, false, false, false, false, false, false, false, false, false] HT_ HW_ hHeld ?_ (hy := by rintro w' ⟨s0, s1, s2, s3, s4, s5, s6, s7, s8, s9, s10⟩; go_simp; with_reducible rfl)
       refine pT_ 1 (some 25) #[true, true, false, false, false, false, false, false, false, false, false, false, false, false, false, false, false] HT_ ?_
       refine pT_ 2 (some 26) #[true, true, true, false, false, false, false, false, false, false, false, false, false, false, false, false, false] HT_ ?_
       refine pT_ 4 (some 28) #[true, true, true, false, true, false, false, false, false, false, false, false, false, false, false, false, false] HT_ ?_
       refine tT_ 3 (some 27) #[true, true, true, true, true, false, false, false, false, false, false, false, false, false, false, false, false] HT_ HW_ hHeld ?_ (hy := by rintro w' ⟨s0, s1, s2, s3, s4, s5, s6, s7, s8, s9, s10⟩; go_simp; with_reducible rfl)
       refine pT_ 5 (some 29) #[true, true, true, true, true, true, false, false, false, false, false, false, false, false, false, false, false] HT_ ?_
       refine pT_ 6 (some 30) #[true, true, true, true, true, true, true, false, false, false, false, false, false, false, false, false, false] HT_ ?_
       refine tT_ 7 (some 31) #[true, true, true, true, true, true, true, true, false, false, false, false, false, false, false, false, false] HT_ HW_ hHeld ?_ (hy := by rintro w' ⟨s0, s1, s2, s3, s4, s5, s6, s7, s8, s9, s10⟩; go_simp; with_reducible rfl)
       refine pT_ 8 (some 32) #[true, true, true, true, true, true, true, true, true, false, false, false, false, false, false, false, false] HT_ ?_
       refine pT_ 9 (some 33) #[true, true, true, true, true, true, true, true, true, true, false, false, false, false, false, false, false] HT_ ?_
       refine pT_ 10 (some 34) #[true, true, true, true, true, true, true, true, true, true, true, false, false, false, false, false, false] HT_ ?_
       refine pT_ 12 (some 36) #[true, true, true, true, true, true, true, true, true, true, true, false, true, false, false, false, false] HT_ ?_
       refine tT_ 11 (some 35) #[true, true, true, true, true, true, true, true, true, true, true, true, true, false, false, false, false] HT_ HW_ hHeld ?_ (hy := by rintro w' ⟨s0, s1, s2, s3, s4, s5, s6, s7, s8, s9, s10⟩; go_simp; with_reducible rfl)
       refine one_ (i := 13) (N := some 37) #[true, true, true, true, true, true, true, true, true, true, true, true, true, true, false, false, false] rfl rfl (one_of HT_.out (by kernel_rfl)) (by decide) (fun K hK => ?_)
       refine goes_ Try.func53 (by kernel_rfl) rfl #[.slice A172_0 ((rd_T39 l0_0 x19_1).f0).length c172_0, .func (.func 54) #[] #[.pointer (some ⟨gbS, 0, none⟩)]] (by rfl) rfl rfl (by (try simp only [List.map_toArray, List.map_cons, List.map_nil]); first | done | rfl | (simp only [List.length_drop, List.length_take]; rfl)) ?_
       with_reducible refine (slices_ContainsFunc_int64_int64.calls k1 _ _ ((rd_T39 l0_0 x19_1).f0) Ao49 co49 x3_1 true _ gbS ?sideE ?side1 ?side2 ?side3 ?side4 A38.out).mono ?_
       (case sideE => exact (blk_cell BKS.out 0).trans rfl)
       (case side1 => exact cB_ HR172_0 HB)
       (case side2 => exact HC172_0.out)
       (case side3 => exact rD_ HO_3)
       (case side4 => exact (Kd.R_reads' HO_3.out).2.1)
       rintro e w' ⟨rfl, ⟨nd, rfl⟩⟩
       refine ⟨_, rfl, ?_⟩
       have p40 : 0 ≤ (x19_1 : Int) := dA_
       have q40 : (x19_1 : Int) < ((x3_1.length : Int) : Int) := dA_
       obtain ⟨go40, co40, eo40, gb40, gl40, cl40, HG40⟩ := Kd.R_form HO_3.out (by omega)
       (first | cases eo40 | (injection eo40 with ea_ en_ ec_; (first | subst ea_ | (injection ea_ with ea_; subst ea_)); subst ec_; clear en_))
       have GB40 := Aside0.mk gb40; have GG40 := Aside0.mk HG40; clear gb40 gl40 HG40
       obtain ⟨hx40_0, hf40_0⟩ := Kd.R_celln false HO_3.out (x19_1 : Int) p40 q40
       replace p40 := eq_true p40; replace q40 := eq_true q40
       have HP50 := Kd.R_putn HO_3.out (x19_1 : Int) true
       rw [← Ny181.out] at HP50
       have HQ50 := Aside0.mk HP50; clear HP50
       refine hK.out _ _ ⟨(blk_cell BK164.out 0).trans rfl, (blk_cell BK164.out 1).trans rfl, (blk_cell BK164.out 2).trans rfl, (blk_cell BK164.out 3).trans rfl, (blk_cell BK173.out 0).trans rfl, (blk_cell BK173.out 1).trans rfl, (blk_cell BK173.out 2).trans rfl, (blk_cell BK173.out 3).trans rfl, ((HB.out.cell (World.block_lt_of_cell? w _ hw174_0)).trans hw174_0), ((HB.out.cell (World.block_lt_of_cell? w _ hw174_1)).trans hw174_1), (blk_cell BKS.out 0).trans rfl⟩ (fun hHeld => ?_)
       clear hK K
       refine nS_ (some 37) ?_
       refine pT_ 14 (some 38) #[true, true, true, true, true, true, true, true, true, true, true, true, true, true, true, false, false] HT_ ?_
       refine pT_ 15 (some 39) #[true, true, true, true, true, true, true, true, true, true, true, true, true, true, true, true, false] HT_ ?_
       refine last_ (i := 16) (N := none) #[true, true, true, true, true, true, true, true, true, true, true, true, true, true, true, true, true] rfl rfl (one_of HT_.out (by kernel_rfl)) (by decide) (fun K hK => ?_)
       refine skip_ (w1 := ?_) (by rfl) rfl ?_ ?_
       rotate_left
       ·go_simp
        rfl
       refine hK.out _ _ ?_
       clear hK K
       refine done_ (done_of HT_.out (by kernel_rfl)) ?_
       have hneS : gbS ≠ go40 := (by have h_ := Kd.R_ne HO_3.out BKS.out (by decide); intro e_; exact h_ (by rw [e_]; rfl)); have hneT := Ne.symm hneS; have hczS : (w48).cell? ⟨gbS, 0, none⟩ = some _ := (blk_cell BKS.out 0).trans rfl; have hfzS := blk_frozen BKS.out 0
       have p41 : 0 ≤ (x19_1 : Int) := dA_
       have q41 : (x19_1 : Int) < ((x3_1.length : Int) : Int) := dA_
       replace p41 := eq_true p41; replace q41 := eq_true q41
       try go_wp2_with (first | ((with_reducible refine gate_builtin (b := .append) (xs := #[.tmp 44, .tmp 47]) rfl ?_); at_builtin; refine Kd.R_append (Kd.int .i64) (w0 := w) w.heap.size rfl (.tmp 44) (.tmp 47) 25 2 (.int .i64 0) 8 rfl Try.underlying25 info2 rfl (by decide) (by omega) u4 x4_1 (wrap64 (x19_1 + 1)) [.int .i64 (wrap64 (x19_1 + 1))] (fun _ => True) (fun _ => False) rfl (by first | (go_simp; done) | (go_simp; rfl)) ?aP (fun _ hk => hk.elim) ?aF ?aO ?aB ?aS ?aL ?_; (case aP => exact rfl); (case aB => exact sABelo_8); (case aF => exact (fun _ _ => trivial)); (case aO => exact (by (with_reducible repeat (first | apply Kd.R_alloc | apply Kd.R_drewN | apply Kd.R_drew)); exact Kd.R_mono (Kd.R_far (p := ⟨go40, (x19_1 : Int).toNat, none⟩) (Kd.R_types HO_4.out GG40.out (by decide)) (fun _ hk => hk.2) (.bool true)) (fun _ hk => trivial))); (case aS => exact (below_size sABelo_8)); (case aL => have := LMc43.out; omega); intro v184 w51 ho hb hg hat; rw [← Ny183.out] at ho; have n0_ := Aside0.mk (Kd.R_over' (by (with_reducible repeat (first | apply Kd.R_alloc | apply Kd.R_drewN | apply Kd.R_drew)); exact HQ50.out) (Kd.R_typed (by (with_reducible repeat (first | apply Kd.R_alloc | apply Kd.R_drewN | apply Kd.R_drew)); exact (Kd.R_mono (Kd.R_far (p := ⟨go40, (x19_1 : Int).toNat, none⟩) (Kd.R_types HO_4.out GG40.out (by decide)) (fun _ hk => hk.2) (.bool true)) (fun _ h_ => h_.1)))) (by decide) hg); have n1_ := Aside0.mk (blk_grown (g := gb164) (o := .cells #[.slice (some ad172) l0_0.length c0_0, .slice A0_1 l0_1.length c0_1, .int .i64 a0_2, .slice (some ad174) l0_3.length c0_3] 31 (0, 0)) (by (with_reducible repeat (first | refine blk_drewN ?_ _ | refine blk_drew ?_ | refine blk_alloc ?_ _)); refine blk_far ?_ (by have h_ := Kd.R_ne HO_3.out BK164.out (by decide); intro e_; exact h_ (by rw [e_]; rfl)) _; exact bT_ BK164) hg (Kd.R_ne HO_4.out BK164.out (by decide))); have s1_ := Aside0.mk (blk_grown (g := gbS) (o := .cells #[.slice (some ⟨go40, 0, none⟩) x3_1.length co49] 34 (0, 0)) (by (with_reducible repeat (first | refine blk_drewN ?_ _ | refine blk_drew ?_ | refine blk_alloc ?_ _)); refine blk_far ?_ (by have h_ := Kd.R_ne HO_3.out BKS.out (by decide); intro e_; exact h_ (by rw [e_]; rfl)) _; (with_reducible repeat (first | refine blk_drewN ?_ _ | refine blk_drew ?_ | refine blk_alloc ?_ _)); exact BKS.out) hg (Kd.R_ne HO_4.out BKS.out (by decide))); have n2_ := Aside0.mk (blk_grown (g := gb173) (o := .cells #[.slice A172_0 ((rd_T39 l0_0 x19_1).f0).length c172_0, .int .i64 ((rd_T39 l0_0 x19_1).f1), .int .i64 ((rd_T39 l0_0 x19_1).f2), .int .i64 ((rd_T39 l0_0 x19_1).f3)] 39 (0, 0)) (by (with_reducible repeat (first | refine blk_drewN ?_ _ | refine blk_drew ?_ | refine blk_alloc ?_ _)); refine blk_far ?_ (by have h_ := Kd.R_ne HO_3.out BK173.out (by decide); intro e_; exact h_ (by rw [e_]; rfl)) _; exact bT_ BK173) hg (Kd.R_ne HO_4.out BK173.out (by decide))); have n3_ := Aside0.mk (hb); have n4_ := Aside0.mk (ho); clear HO_3; clear BK164 BKS; clear BK173; clear HB; clear HO_4; have HO_3 := n0_; have BK164 := n1_; have BKS := s1_; clear s1_; have BK173 := n2_; have HB := n3_; have HO185 := n4_; clear n0_ n1_ n2_ n3_ n4_; clear ho hb hg hat))
       go_roundg k1
       case measure => have := HK1.out; omega
       case rel => exact ⟨(y181), (y183), (wrap64 (x19_1 + 1)), (by first | rfl | (simp; done) | (simp [*]; done)), H', ⟨by have := HK1.out; omega⟩, ⟨rT_ HO_3⟩, ⟨rT_ HO185⟩, ⟨bT_ BK164⟩, ⟨by (with_reducible repeat (first | refine blk_drewN ?_ _ | refine blk_drew ?_ | refine blk_alloc ?_ _)); exact BKS.out⟩, ⟨sABelo_8⟩⟩
      ·replace c42 := Bool.eq_false_iff.mpr c42
       subst c42
       replace H := ifF_ H; have H' := Aside0.mk H; clear H
       have p172 : 0 ≤ (x19_1 : Int) := dA_
       have q172 : x19_1 < (l0_0.length : Int) := dA_
       obtain ⟨ad172, A172_0, c172_0, e172, hx172_0, hx172_1, hx172_2, hx172_3, hl172_0, hi172_0⟩ := at_T39 HR0_0.out x19_1 p172 q172
       cases e172
       replace hx172_0 := hX_ HB hx172_0
       replace hx172_1 := hX_ HB hx172_1
       replace hx172_2 := hX_ HB hx172_2
       replace hx172_3 := hX_ HB hx172_3
       have HR172_0 := Aside0.mk hi172_0; have HC172_0 := Aside0.mk hl172_0; clear hi172_0 hl172_0; replace p172 := eq_true p172; replace q172 := eq_true q172
       try go_wp2_with (first | ((with_reducible refine gate_dst (N := 6) rfl ?_); refine box_event ?hg (N := 6) ?hd (cs := #[.slice none 0 0, .int .i64 0, .int .i64 0, .int .i64 0]) (t := 39) ?hr ?_; (case hd => rfl); (case hg => rfl); (case hr => first | (go_simp; done) | (go_simp; rfl)); intro gb173 hg w52 hbox hb; have n0_ := rB_ HO_3 hb; have n1_ := rB_ HO_4 hb; have n2_ := bB_ BK164 hb; have s2_ := Aside0.mk (blk_below (g := gbS) (bT_ BKS) hb); have n3_ := bS_ HB hb; have n4_ := Aside0.mk (hbox); have n5_ := gE_ HB hg; have n6_ := gE_ HB hg; have n7_ := nL_ BK164 hg; have s7_ := Aside0.mk ((by rw [hg]; exact Nat.ne_of_lt (blk_lt (g := gbS) (bT_ BKS)) : gbS ≠ gb173)); have n8_ := nG_ BK164 hg; have s8_ := Aside0.mk ((by rw [hg]; exact Nat.ne_of_gt (blk_lt (g := gbS) (bT_ BKS)) : gb173 ≠ gbS)); clear HO_3; clear HO_4; clear BK164 BKS; clear HB; have HO_3 := n0_; have HO_4 := n1_; have BK164 := n2_; have BKS := s2_; clear s2_; have HB := n3_; have BK173 := n4_; have GW173 := n5_; have GE173 := n6_; have NB164_173 := n7_; have NBS_173 := s7_; clear s7_; have NB173_164 := n8_; have NB173_S := s8_; clear s8_; clear n0_ n1_ n2_ n3_ n4_ n5_ n6_ n7_ n8_; clear hb hbox hg; have hnb53 := NB173_164.out; have hnc53 := NB164_173.out; obtain ⟨hcz54_0, hcz54_1, hcz54_2, hcz54_3, hfz54_0, hfz54_1, hfz54_2, hfz54_3⟩ := cf4_ BK173))
       have n0_ : Aside0 (Kd.R Kd.bool 4 ((((w52.setCell ⟨gb173, 0, none⟩ (.slice A172_0 ((rd_T39 l0_0 x19_1).f0).length c172_0)).setCell ⟨gb173, 1, none⟩ (.int .i64 ((rd_T39 l0_0 x19_1).f1))).setCell ⟨gb173, 2, none⟩ (.int .i64 ((rd_T39 l0_0 x19_1).f2))).setCell ⟨gb173, 3, none⟩ (.int .i64 ((rd_T39 l0_0 x19_1).f3))) w.heap.size (fun _ => True) v167 x3_1) := ⟨rFM_ HO_3 BK173⟩
       have n1_ : Aside0 (Kd.R (Kd.int .i64) 2 ((((w52.setCell ⟨gb173, 0, none⟩ (.slice A172_0 ((rd_T39 l0_0 x19_1).f0).length c172_0)).setCell ⟨gb173, 1, none⟩ (.int .i64 ((rd_T39 l0_0 x19_1).f1))).setCell ⟨gb173, 2, none⟩ (.int .i64 ((rd_T39 l0_0 x19_1).f2))).setCell ⟨gb173, 3, none⟩ (.int .i64 ((rd_T39 l0_0 x19_1).f3))) w.heap.size (fun _ => True) u4 x4_1) := ⟨rFM_ HO_4 BK173⟩
       have n2_ : Aside0 (((((w52.setCell ⟨gb173, 0, none⟩ (.slice A172_0 ((rd_T39 l0_0 x19_1).f0).length c172_0)).setCell ⟨gb173, 1, none⟩ (.int .i64 ((rd_T39 l0_0 x19_1).f1))).setCell ⟨gb173, 2, none⟩ (.int .i64 ((rd_T39 l0_0 x19_1).f2))).setCell ⟨gb173, 3, none⟩ (.int .i64 ((rd_T39 l0_0 x19_1).f3))).heap[gb164]? = some (.cells #[.slice (some ad172) l0_0.length c0_0, .slice A0_1 l0_1.length c0_1, .int .i64 a0_2, .slice A0_3 l0_3.length c0_3] 31 (0, 0))) := ⟨bF_ BK164 NB164_173⟩; have s2_ : Aside0 (((((w52.setCell ⟨gb173, 0, none⟩ (.slice A172_0 ((rd_T39 l0_0 x19_1).f0).length c172_0)).setCell ⟨gb173, 1, none⟩ (.int .i64 ((rd_T39 l0_0 x19_1).f1))).setCell ⟨gb173, 2, none⟩ (.int .i64 ((rd_T39 l0_0 x19_1).f2))).setCell ⟨gb173, 3, none⟩ (.int .i64 ((rd_T39 l0_0 x19_1).f3))).heap[gbS]? = some (.cells #[v167] 34 (0, 0))) := ⟨by (with_reducible repeat (first | refine blk_drewN ?_ _ | refine blk_drew ?_ | refine blk_alloc ?_ _)); refine blk_far ?_ NBS_173.out _; (with_reducible repeat (first | refine blk_drewN ?_ _ | refine blk_drew ?_ | refine blk_alloc ?_ _)); refine blk_far ?_ NBS_173.out _; (with_reducible repeat (first | refine blk_drewN ?_ _ | refine blk_drew ?_ | refine blk_alloc ?_ _)); refine blk_far ?_ NBS_173.out _; (with_reducible repeat (first | refine blk_drewN ?_ _ | refine blk_drew ?_ | refine blk_alloc ?_ _)); refine blk_far ?_ NBS_173.out _; (with_reducible repeat (first | refine blk_drewN ?_ _ | refine blk_drew ?_ | refine blk_alloc ?_ _)); exact BKS.out⟩
       have n3_ : Aside0 (((((w52.setCell ⟨gb173, 0, none⟩ (.slice A172_0 ((rd_T39 l0_0 x19_1).f0).length c172_0)).setCell ⟨gb173, 1, none⟩ (.int .i64 ((rd_T39 l0_0 x19_1).f1))).setCell ⟨gb173, 2, none⟩ (.int .i64 ((rd_T39 l0_0 x19_1).f2))).setCell ⟨gb173, 3, none⟩ (.int .i64 ((rd_T39 l0_0 x19_1).f3))).heap[gb173]? = some (.cells #[.slice A172_0 ((rd_T39 l0_0 x19_1).f0).length c172_0, .int .i64 ((rd_T39 l0_0 x19_1).f1), .int .i64 ((rd_T39 l0_0 x19_1).f2), .int .i64 ((rd_T39 l0_0 x19_1).f3)] 39 (0, 0))) := ⟨bP_ BK173⟩
       have n4_ : Aside0 (Below w.heap.size w ((((w52.setCell ⟨gb173, 0, none⟩ (.slice A172_0 ((rd_T39 l0_0 x19_1).f0).length c172_0)).setCell ⟨gb173, 1, none⟩ (.int .i64 ((rd_T39 l0_0 x19_1).f1))).setCell ⟨gb173, 2, none⟩ (.int .i64 ((rd_T39 l0_0 x19_1).f2))).setCell ⟨gb173, 3, none⟩ (.int .i64 ((rd_T39 l0_0 x19_1).f3)))) := ⟨sABelo_8⟩
       (try clear HO_3); (try clear HO_4); (try clear BK164 BKS); (try clear BK173); (try clear HB)
       generalize ((((w52.setCell ⟨gb173, 0, none⟩ (.slice A172_0 ((rd_T39 l0_0 x19_1).f0).length c172_0)).setCell ⟨gb173, 1, none⟩ (.int .i64 ((rd_T39 l0_0 x19_1).f1))).setCell ⟨gb173, 2, none⟩ (.int .i64 ((rd_T39 l0_0 x19_1).f2))).setCell ⟨gb173, 3, none⟩ (.int .i64 ((rd_T39 l0_0 x19_1).f3))) = w55 at n0_ n1_ n2_ n3_ n4_ s2_ ⊢
       have HO_3 := n0_; have HO_4 := n1_
       have BK164 := n2_; have BKS := s2_; clear s2_; have BK173 := n3_; have HB := n4_; clear n0_ n1_ n2_ n3_ n4_
       have n0_ := Aside0.mk (Kd.R_drew HO_3.out)
       have n1_ := Aside0.mk (Kd.R_drew HO_4.out)
       have n2_ := Aside0.mk (blk_drew BK164.out); have s2_ := Aside0.mk (blk_drew BKS.out)
       have n3_ := Aside0.mk (blk_drew BK173.out)
       have n4_ := Aside0.mk (below_drew1 HB.out)
       clear HO_3 HO_4 BK164 BKS BK173 HB; have HO_3 := n0_; have HO_4 := n1_
       have BK164 := n2_; have BKS := s2_; clear s2_; have BK173 := n3_; have HB := n4_; clear n0_ n1_ n2_ n3_ n4_
       have p174 : 0 ≤ (x19_1 : Int) := dA_
       have q174 : x19_1 < (l0_3.length : Int) := dA_
       obtain ⟨ad174, e174, hx174_0, hx174_1⟩ := at_T43 HR0_3.out x19_1 p174 q174
       have hw174_1 := hx174_1; have hw174_0 := hx174_0
       cases e174
       replace hx174_0 := hX_ HB hx174_0
       replace hx174_1 := hX_ HB hx174_1
       replace p174 := eq_true p174; replace q174 := eq_true q174
       obtain ⟨Ao57, co57, eo57⟩ := Kd.R_slice HO_3.out
       (first | subst eo57 | (injection eo57 with f1_ f2_ f3_; have f4_ := f1_.symm; have f5_ := f3_.symm; clear f1_ f2_ f3_; subst f4_; subst f5_))
       refine start_ (n := 17) (S := fun w' => w'.cell? ⟨gb164, 0, none⟩ = some (.slice (some ad172) l0_0.length c0_0) ∧ w'.cell? ⟨gb164, 1, none⟩ = some (.slice A0_1 l0_1.length c0_1) ∧ w'.cell? ⟨gb164, 2, none⟩ = some (.int .i64 a0_2) ∧ w'.cell? ⟨gb164, 3, none⟩ = some (.slice (some ad174) l0_3.length c0_3) ∧ w'.cell? ⟨gb173, 0, none⟩ = some (.slice A172_0 ((rd_T39 l0_0 x19_1).f0).length c172_0) ∧ w'.cell? ⟨gb173, 1, none⟩ = some (.int .i64 ((rd_T39 l0_0 x19_1).f1)) ∧ w'.cell? ⟨gb173, 2, none⟩ = some (.int .i64 ((rd_T39 l0_0 x19_1).f2)) ∧ w'.cell? ⟨gb173, 3, none⟩ = some (.int .i64 ((rd_T39 l0_0 x19_1).f3)) ∧ w'.cell? (ad174.add ((x19_1).toNat * 2)) = some (.int .i64 ((rd_T43 l0_3 x19_1).f0)) ∧ w'.cell? ⟨(ad174.add ((x19_1).toNat * 2)).block, (ad174.add ((x19_1).toNat * 2)).off + 1, none⟩ = some (.int .i64 ((rd_T43 l0_3 x19_1).f1)) ∧ w'.cell? ⟨gbS, 0, none⟩ = some (.slice Ao57 x3_1.length co57)) (ds := [16]) #[false, false, false, false, false, false, false, false, false, false, false, false, false, false, false, false, false] (by kernel_rfl) rfl rfl ⟨(blk_cell BK164.out 0).trans rfl, (blk_cell BK164.out 1).trans rfl, (blk_cell BK164.out 2).trans rfl, (blk_cell BK164.out 3).trans rfl, (blk_cell BK173.out 0).trans rfl, (blk_cell BK173.out 1).trans rfl, (blk_cell BK173.out 2).trans rfl, (blk_cell BK173.out 3).trans rfl, ((HB.out.cell (World.block_lt_of_cell? w _ hw174_0)).trans hw174_0), ((HB.out.cell (World.block_lt_of_cell? w _ hw174_1)).trans hw174_1), (blk_cell BKS.out 0).trans rfl⟩ (fun hHeld => ?_); refine with_tabW impl_Stuck.tab8 impl_Stuck.bits8 (fun HT_ HW_ => ?_)
       generalize w55.drew = w56 at HO_3 HO_4 BK164 BKS BK173 HB hx174_0 hx174_1 hHeld ⊢
       refine tT_ 0 (some 24) #[true, false, false, false, false, false, false, false, false, false, false, false, false, false, false, false, false] HT_ HW_ hHeld ?_ (hy := by rintro w' ⟨s0, s1, s2, s3, s4, s5, s6, s7, s8, s9, s10⟩; go_simp; with_reducible rfl)
       refine pT_ 1 (some 25) #[true, true, false, false, false, false, false, false, false, false, false, false, false, false, false, false, false] HT_ ?_
       refine pT_ 2 (some 26) #[true, true, true, false, false, false, false, false, false, false, false, false, false, false, false, false, false] HT_ ?_
       refine pT_ 4 (some 28) #[true, true, true, false, true, false, false, false, false, false, false, false, false, false, false, false, false] HT_ ?_
       refine tT_ 3 (some 27) #[true, true, true, true, true, false, false, false, false, false, false, false, false, false, false, false, false] HT_ HW_ hHeld ?_ (hy := by rintro w' ⟨s0, s1, s2, s3, s4, s5, s6, s7, s8, s9, s10⟩; go_simp; with_reducible rfl)
       refine pT_ 5 (some 29) #[true, true, true, true, true, true, false, false, false, false, false, false, false, false, false, false, false] HT_ ?_
       refine pT_ 6 (some 30) #[true, true, true, true, true, true, true, false, false, false, false, false, false, false, false, false, false] HT_ ?_
       refine tT_ 7 (some 31) #[true, true, true, true, true, true, true, true, false, false, false, false, false, false, false, false, false] HT_ HW_ hHeld ?_ (hy := by rintro w' ⟨s0, s1, s2, s3, s4, s5, s6, s7, s8, s9, s10⟩; go_simp; with_reducible rfl)
       refine pT_ 8 (some 32) #[true, true, true, true, true, true, true, true, true, false, false, false, false, false, false, false, false] HT_ ?_
       refine pT_ 9 (some 33) #[true, true, true, true, true, true, true, true, true, true, false, false, false, false, false, false, false] HT_ ?_
       refine pT_ 10 (some 34) #[true, true, true, true, true, true, true, true, true, true, true, false, false, false, false, false, false] HT_ ?_
       refine pT_ 12 (some 36) #[true, true, true, true, true, true, true, true, true, true, true, false, true, false, false, false, false] HT_ ?_
       refine tT_ 11 (some 35) #[true, true, true, true, true, true, true, true, true, true, true, true, true, false, false, false, false] HT_ HW_ hHeld ?_ (hy := by rintro w' ⟨s0, s1, s2, s3, s4, s5, s6, s7, s8, s9, s10⟩; go_simp; with_reducible rfl)
       refine one_ (i := 13) (N := some 37) #[true, true, true, true, true, true, true, true, true, true, true, true, true, true, false, false, false] rfl rfl (one_of HT_.out (by kernel_rfl)) (by decide) (fun K hK => ?_)
       refine goes_ Try.func53 (by kernel_rfl) rfl #[.slice A172_0 ((rd_T39 l0_0 x19_1).f0).length c172_0, .func (.func 54) #[] #[.pointer (some ⟨gbS, 0, none⟩)]] (by rfl) rfl rfl (by (try simp only [List.map_toArray, List.map_cons, List.map_nil]); first | done | rfl | (simp only [List.length_drop, List.length_take]; rfl)) ?_
       with_reducible refine (slices_ContainsFunc_int64_int64.calls k1 _ _ ((rd_T39 l0_0 x19_1).f0) Ao57 co57 x3_1 false _ gbS ?sideE ?side1 ?side2 ?side3 ?side4 A38.out).mono ?_
       (case sideE => exact (blk_cell BKS.out 0).trans rfl)
       (case side1 => exact cB_ HR172_0 HB)
       (case side2 => exact HC172_0.out)
       (case side3 => exact rD_ HO_3)
       (case side4 => exact (Kd.R_reads' HO_3.out).2.1)
       rintro e w' ⟨rfl, ⟨nd, rfl⟩⟩
       refine ⟨_, rfl, ?_⟩
       have p40 : 0 ≤ (x19_1 : Int) := dA_
       have q40 : (x19_1 : Int) < ((x3_1.length : Int) : Int) := dA_
       obtain ⟨go40, co40, eo40, gb40, gl40, cl40, HG40⟩ := Kd.R_form HO_3.out (by omega)
       (first | cases eo40 | (injection eo40 with ea_ en_ ec_; (first | subst ea_ | (injection ea_ with ea_; subst ea_)); subst ec_; clear en_))
       have GB40 := Aside0.mk gb40; have GG40 := Aside0.mk HG40; clear gb40 gl40 HG40
       obtain ⟨hx40_0, hf40_0⟩ := Kd.R_celln false HO_3.out (x19_1 : Int) p40 q40
       replace p40 := eq_true p40; replace q40 := eq_true q40
       have HP58 := Kd.R_putn HO_3.out (x19_1 : Int) false
       rw [← Ny181.out] at HP58
       have HQ58 := Aside0.mk HP58; clear HP58
       refine hK.out _ _ ⟨(blk_cell BK164.out 0).trans rfl, (blk_cell BK164.out 1).trans rfl, (blk_cell BK164.out 2).trans rfl, (blk_cell BK164.out 3).trans rfl, (blk_cell BK173.out 0).trans rfl, (blk_cell BK173.out 1).trans rfl, (blk_cell BK173.out 2).trans rfl, (blk_cell BK173.out 3).trans rfl, ((HB.out.cell (World.block_lt_of_cell? w _ hw174_0)).trans hw174_0), ((HB.out.cell (World.block_lt_of_cell? w _ hw174_1)).trans hw174_1), (blk_cell BKS.out 0).trans rfl⟩ (fun hHeld => ?_)
       clear hK K
       refine nS_ (some 37) ?_
       refine pT_ 14 (some 38) #[true, true, true, true, true, true, true, true, true, true, true, true, true, true, true, false, false] HT_ ?_
       refine pT_ 15 (some 39) #[true, true, true, true, true, true, true, true, true, true, true, true, true, true, true, true, false] HT_ ?_
       refine last_ (i := 16) (N := none) #[true, true, true, true, true, true, true, true, true, true, true, true, true, true, true, true, true] rfl rfl (one_of HT_.out (by kernel_rfl)) (by decide) (fun K hK => ?_)
       refine skip_ (w1 := ?_) (by rfl) rfl ?_ ?_
       rotate_left
       ·go_simp
        rfl
       refine hK.out _ _ ?_
       clear hK K
       refine done_ (done_of HT_.out (by kernel_rfl)) ?_
       have hneS : gbS ≠ go40 := (by have h_ := Kd.R_ne HO_3.out BKS.out (by decide); intro e_; exact h_ (by rw [e_]; rfl)); have hneT := Ne.symm hneS; have hczS : (w56).cell? ⟨gbS, 0, none⟩ = some _ := (blk_cell BKS.out 0).trans rfl; have hfzS := blk_frozen BKS.out 0
       have p41 : 0 ≤ (x19_1 : Int) := dA_
       have q41 : (x19_1 : Int) < ((x3_1.length : Int) : Int) := dA_
       replace p41 := eq_true p41; replace q41 := eq_true q41
       try go_wp2
       go_roundg k1
       case measure => have := HK1.out; omega
       case rel => exact ⟨(y181), (x4_1), (wrap64 (x19_1 + 1)), (by first | rfl | (simp; done) | (simp [*]; done)), H', ⟨by have := HK1.out; omega⟩, ⟨by (with_reducible repeat (first | apply Kd.R_alloc | apply Kd.R_drewN | apply Kd.R_drew)); exact HQ58.out⟩, ⟨by (with_reducible repeat (first | apply Kd.R_alloc | apply Kd.R_drewN | apply Kd.R_drew)); exact Kd.R_mono (Kd.R_far (p := ⟨go40, (x19_1 : Int).toNat, none⟩) (Kd.R_types HO_4.out GG40.out (by decide)) (fun _ hk => hk.2) (.bool false)) (fun _ hk => trivial)⟩, ⟨by (with_reducible repeat (first | refine blk_drewN ?_ _ | refine blk_drew ?_ | refine blk_alloc ?_ _)); refine blk_far ?_ (by have h_ := Kd.R_ne HO_3.out BK164.out (by decide); intro e_; exact h_ (by rw [e_]; rfl)) _; exact bT_ BK164⟩, ⟨by (with_reducible repeat (first | refine blk_drewN ?_ _ | refine blk_drew ?_ | refine blk_alloc ?_ _)); refine blk_far ?_ (by have h_ := Kd.R_ne HO_3.out BKS.out (by decide); intro e_; exact h_ (by rw [e_]; rfl)) _; (with_reducible repeat (first | refine blk_drewN ?_ _ | refine blk_drew ?_ | refine blk_alloc ?_ _)); exact BKS.out⟩, ⟨sABelo_8⟩⟩
    ·rw [if_neg c15] at H
     have c15b0 := decide_eq_false c15
     clear c15
     obtain rfl := Option.some.inj H
     go_wp2
     go_ret
     exact ⟨_, by first | rfl | (simp [errW_none, errW_some] <;> rfl) | (simp [*, errW_none, errW_some] <;> rfl), by (with_reducible repeat (first | apply Kd.R_alloc | apply Kd.R_drewN | apply Kd.R_drew)); exact HO_4.out, sABelo_8⟩
 ·replace c3 := Bool.eq_false_iff.mpr c3
  subst c3
  replace H := ifF_ H
  obtain rfl := Option.some.inj H
  go_enter Try.func19, Try.ntmps19
  go_wp2_with (first | ((with_reducible refine gate_dst (N := 1) rfl ?_); refine box_event ?hg (N := 1) ?hd (cs := #[.slice A0_0 l0_0.length c0_0, .slice A0_1 l0_1.length c0_1, .int .i64 a0_2, .slice A0_3 l0_3.length c0_3]) (t := 31) ?hr ?_; (case hd => rfl); (case hg => rfl); (case hr => first | (go_simp; done) | (go_simp; rfl)); intro gb164 hg w59 hbox hb; have BK164 := Aside0.mk (hbox); have GW164 := gE_ HB hg; have GE164 := gE_ HB hg; replace HB := bS_ HB hb; clear hb hbox hg; obtain ⟨hcz60_0, hcz60_1, hcz60_2, hcz60_3, hfz60_0, hfz60_1, hfz60_2, hfz60_3⟩ := cf4_ BK164) | ((with_reducible refine gate_callee (f := 48) rfl ?_); refine gL_ (some 8) Try.func48 #[.agg #[.slice A0_0 l0_0.length c0_0, .slice A0_1 l0_1.length c0_1, .int .i64 a0_2, .slice A0_3 l0_3.length c0_3]] ?_; (with_reducible refine (impl_runOk.calls k _ _ l0_0 _ _ l0_1 a0_2 _ _ l0_3 false _ ?side1 ?side2 ?side3 ?side4 ?side5 ?side6 A2.out).mono ?_); (case side1 => exact cB_ HR0_0 HB); (case side2 => exact HC0_0.out); (case side3 => exact cB_ HR0_1 HB); (case side4 => exact HC0_1.out); (case side5 => exact cB_ HR0_3 HB); (case side6 => exact HC0_3.out); rintro e w61 ⟨rfl, hb⟩; refine ⟨_, rfl, ?_⟩; replace BK164 := bB_ BK164 hb; replace HB := bS_ HB hb; (try clear hb)))
  go_ret
  exact ⟨_, by first | rfl | (simp [errW_none, errW_some] <;> rfl) | (simp [*, errW_none, errW_some] <;> rfl), by first | exact Kd.R_nil _ _ _ _ _ | exact Kd.N_nil _ _ _ _ _ | exact Kd.V_nil _ _ _ _ _ | exact Kd.Q_nil _ _ _ _ _ | exact Kd.S_nil _ _ _ _ _, sABelo_8⟩

end Go.Proofs.Ytjoghfehmhapbaa.QFnExactStuck
