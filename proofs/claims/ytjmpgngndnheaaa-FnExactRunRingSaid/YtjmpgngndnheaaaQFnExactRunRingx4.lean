-- Written by a program of this session out of the printer's texts and contracts of its own.
import Derived.Test.YtjmpgngndnheaaaSq
import Derived.Test.YtjmpgngndnheaaaQFnExactRunRingx0
import Derived.Test.YtjmpgngndnheaaaQFnExactRunRingx1
import Derived.Test.YtjmpgngndnheaaaQFnExactRunRingx2
import Derived.Test.YtjmpgngndnheaaaQFnExactRunRingx3
namespace Go.Proofs.Ytjmpgngndnheaaa.QFnExactRunRing
open Go.RowKit Go.Proofs.YtjmpgngndnheaaaW.PrintWords Go.Proofs.YtjmpgngndnheaaaW.PrintLast Go.Proofs.YtjmpgngndnheaaaW.PrintMore Go.Proofs.Ytjmpgngndnheaaa.Sq
attribute [local go_sem] max2_int min2_int max_two min_two max_three min_three max_four min_four   -- for this text's walks alone
set_option linter.unusedVariables false
set_option linter.unusedSimpArgs false

/-! ### spec_RunRing: function 16 -/
mutual
def spec_RunRing.j0 : Nat → List Int → Int → Bool → List Int → List Int → Option (List Int × List Int × Bool)
 | 0, _, _, _, _, _ => none
 | k + 1, x1, x2, x18, x200000, x200001 => if x18 = true then (some (([] : List Int), ([] : List Int), false)) else ((some (([] : List Int) : List Int)).bind fun y203 => (if y203.length + x200000.length < 17592186044416 then ((some (([] : List Int) : List Int)).bind fun y209 => (if y209.length + x200001.length < 17592186044416 then (spec_RunRing.l0 k x1 x2 0 (y203 ++ x200000) (y209 ++ x200001)) else (none))) else (none)))
def spec_RunRing.l0 : Nat → List Int → Int → Int → List Int → List Int → Option (List Int × List Int × Bool)
 | 0, _, _, _, _, _ => none
 | k + 1, x1, x2, x9, x216000, x216001 => if x9 < x2 then ((spec_l17Step.f k x216000 x216001 x1).bind fun bt216 => (spec_RunRing.l0 k x1 x2 (wrap64 (x9 + 1)) bt216.1 bt216.2)) else (some (x216000, x216001, true))
end
def spec_RunRing.f (k : Nat) (l0_0 : List Int) (l0_1 : List Int) (l1 : List Int) (a2 : Int) : Option (List Int × List Int × Bool) := (spec_l17WindsOk.f k l0_0 l0_1 l1).bind fun t201 => (if t201 = true then ((spec_l2In.f a2 0 200).bind fun t202 => (spec_RunRing.j0 k l1 a2 (!t202) l0_0 l0_1)) else (spec_RunRing.j0 k l1 a2 true l0_0 l0_1))
theorem spec_RunRing.mono_l : ∀ k, (∀ y0 y1 y2 y3 y4, LeO (spec_RunRing.j0 k y0 y1 y2 y3 y4) (spec_RunRing.j0 (k + 1) y0 y1 y2 y3 y4)) ∧ (∀ y0 y1 y2 y3 y4, LeO (spec_RunRing.l0 k y0 y1 y2 y3 y4) (spec_RunRing.l0 (k + 1) y0 y1 y2 y3 y4))
 | 0 => ⟨fun _ _ _ _ _ r h => by simp [spec_RunRing.j0] at h, fun _ _ _ _ _ r h => by simp [spec_RunRing.l0] at h⟩
 | k + 1 => by
  obtain ⟨ih0, ih1⟩ := spec_RunRing.mono_l k
  refine ⟨?_, ?_⟩
  intro y0 y1 y2 y3 y4; unfold spec_RunRing.j0; rotate_left
  intro y0 y1 y2 y3 y4; unfold spec_RunRing.l0; rotate_left
  all_goals repeat' first
  | (with_reducible exact ih0 _ _ _ _ _)
  | (with_reducible exact ih1 _ _ _ _ _)
  | (with_reducible exact spec_l17Step.mono _ _ _ _)
  | (with_reducible exact spec_l17WindsOk.mono _ _ _ _)
  | (with_reducible exact LeO.refl _)
  | (with_reducible exact LeO.none _)
  | (with_reducible refine LeO.ite ?_ ?_)
  | (with_reducible refine LeO.bind ?_ (fun _ => ?_))
  | exact ih0 _ _ _ _ _
  | exact ih1 _ _ _ _ _
  | exact spec_l17Step.mono _ _ _ _
  | exact spec_l17WindsOk.mono _ _ _ _
  | exact LeO.none _
  | refine LeO.ite ?_ ?_
  | refine LeO.bind ?_ (fun _ => ?_)
theorem spec_RunRing.mono : ∀ a0 a1 a2 a3 k, LeO (spec_RunRing.f k a0 a1 a2 a3) (spec_RunRing.f (k + 1) a0 a1 a2 a3) := by
 intro a0 a1 a2 a3 k
 obtain ⟨ih0, ih1⟩ := spec_RunRing.mono_l k
 unfold spec_RunRing.f
 repeat' first
   | (with_reducible exact ih0 _ _ _ _ _)
   | (with_reducible exact ih1 _ _ _ _ _)
   | (with_reducible exact spec_l17Step.mono _ _ _ _)
   | (with_reducible exact spec_l17WindsOk.mono _ _ _ _)
   | (with_reducible exact LeO.refl _)
   | (with_reducible exact LeO.none _)
   | (with_reducible refine LeO.ite ?_ ?_)
   | (with_reducible refine LeO.bind ?_ (fun _ => ?_))
   | exact ih0 _ _ _ _ _
   | exact ih1 _ _ _ _ _
   | exact spec_l17Step.mono _ _ _ _
   | exact spec_l17WindsOk.mono _ _ _ _
   | exact LeO.none _
   | refine LeO.ite ?_ ?_
   | refine LeO.bind ?_ (fun _ => ?_)
def spec_RunRing.T3 : Bool × List (List Nat × List Nat) := (true, [([], []), ([], []), ([1], [1]), ([0, 2], [0, 2]), ([], []), ([], []), ([5], [5]), ([4, 6, 3], [4, 6]), ([3, 7], [3, 7]), ([], []), ([9, 8, 7, 0, 1, 2, 3, 4, 5, 6, 7, 8, 9], [8, 9])])
def spec_RunRing.B3 : List Nat := [0, 0, 2, 7, 0, 0, 32, 127, 255, 0, 1023]
theorem spec_RunRing.tab3 : rtab .any (opsOf Try.f16 3) = spec_RunRing.T3 := by kernel_rfl
theorem spec_RunRing.bits3 : waitsOk spec_RunRing.T3.2 spec_RunRing.B3 = true := by kernel_rfl
set_option maxHeartbeats 8000000 in
set_option maxRecDepth 100000 in
theorem spec_RunRing.calls (k : Nat) (A0_0 : Option Addr) (c0_0 : Nat) (l0_0 : List Int) (A0_1 : Option Addr) (c0_1 : Nat) (l0_1 : List Int) (A1 : Option Addr) (c1 : Nat) (l1 : List Int) (a2 : Int) (r1 : List Int) (r2 : List Int) (r3 : Bool) (w : World) (hr0_0 : Kd.C (Kd.int .i64) w A0_0 l0_0.length l0_0) (hc0_0 : l0_0.length ≤ c0_0) (hr0_1 : Kd.C (Kd.int .i64) w A0_1 l0_1.length l0_1) (hc0_1 : l0_1.length ≤ c0_1) (hr1 : Kd.C (Kd.int .i64) w A1 l1.length l1) (hc1 : l1.length ≤ c1) (h : spec_RunRing.f k l0_0 l0_1 l1 a2 = some (r1, r2, r3)) :
  Calls Try.prog 16 #[.agg #[.slice A0_0 l0_0.length c0_0, .slice A0_1 l0_1.length c0_1], .slice A1 l1.length c1, .int .i64 a2] w fun e w' => ∃ v0_ v1_ : Value, e = .returned (.tuple #[.agg #[v0_, v1_], .bool r3]) ∧ Kd.R (Kd.int .i64) 2 w' w.heap.size (fun k_ => some k_ ≠ (v1_ : Value).ownBlock) v0_ r1 ∧ Kd.R (Kd.int .i64) 2 w' w.heap.size (fun k_ => some k_ ≠ (v0_ : Value).ownBlock) v1_ r2 ∧ Below w.heap.size w w' := by
 have hu26 := Try.underlying26; have HR0_0 := Aside0.mk hr0_0; have HC0_0 := Aside0.mk hc0_0; clear hr0_0 hc0_0; have HR0_1 := Aside0.mk hr0_1; have HC0_1 := Aside0.mk hc0_1; clear hr0_1 hc0_1; have HR1 := Aside0.mk hr1; have HC1 := Aside0.mk hc1; clear hr1 hc1
 have HB := Aside0.mk (Below.refl w.heap.size w)
 have H : ((spec_l17WindsOk.f k l0_0 l0_1 l1).bind fun t201 => (if t201 = true then ((spec_l2In.f a2 0 200).bind fun t202 => (spec_RunRing.j0 k l1 a2 (!t202) l0_0 l0_1)) else (spec_RunRing.j0 k l1 a2 true l0_0 l0_1))) = some (r1, r2, r3) := h
 clear h; have HC4 := Aside0.mk H; clear H
 go_enter Try.func16, Try.ntmps16
 go_upto_region 1 with (first | ((with_reducible refine gate_dst (N := 3) rfl ?_); refine box_event ?hg (N := 3) ?hd (cs := #[.slice A0_0 l0_0.length c0_0, .slice A0_1 l0_1.length c0_1]) (t := 26) ?hr ?_; (case hd => rfl); (case hg => rfl); (case hr => first | (go_simp; done) | (go_simp; rfl)); intro gb199 hg w5 hbox hb; have BK199 := Aside0.mk (hbox); have GW199 := gE_ HB hg; have GE199 := gE_ HB hg; replace HB := bS_ HB hb; clear hb hbox hg) | ((with_reducible refine gate_dst (N := 6) rfl ?_); refine box_event ?hg (N := 6) ?hd (cs := #[.slice none 0 0, .slice none 0 0]) (t := 26) ?hr ?_; (case hd => rfl); (case hg => rfl); (case hr => first | (go_simp; done) | (go_simp; rfl)); intro gb200 hg w6 hbox hb; have BK200 := Aside0.mk (hbox); have GW200 := gE_ HB hg; have GE200 := gE_ HB hg; replace HB := bS_ HB hb; have NB199_200 := nL_ BK199 hg; have NB200_199 := nG_ BK199 hg; replace BK199 := bB_ BK199 hb; clear hb hbox hg))
 (try simp only [Act.put, List.setIfInBounds_toArray, List.set_cons_zero, List.set_cons_succ])
 go_cut [18] (fun v18 wc => ∃ (kq : Nat) (x18_3 : Bool), v18 = .bool x18_3 ∧ Aside0 (spec_RunRing.j0 kq l1 a2 x18_3 l0_0 l0_1 = some (r1, r2, r3)) ∧ Aside0 (kq ≤ k) ∧ Aside0 (wc.heap[gb199]? = some (.cells #[(.slice A0_0 l0_0.length c0_0), (.slice A0_1 l0_1.length c0_1)] 26 (0, 0))) ∧ Aside0 (wc.heap[gb200]? = some (.cells #[(.slice none 0 0), (.slice none 0 0)] 26 (0, 0))) ∧ Aside0 (Below w.heap.size w wc))
 case first =>
  have H := HC4.out; clear HC4; replace H := Option.bind_eq_some_iff.mp H
  obtain ⟨t201, A70, H⟩ := H
  replace H : (if t201 = true then ((spec_l2In.f a2 0 200).bind fun t202 => (spec_RunRing.j0 k l1 a2 (!t202) l0_0 l0_1)) else (spec_RunRing.j0 k l1 a2 true l0_0 l0_1)) = some (r1, r2, r3) := H
  have A7 := Aside0.mk A70; clear A70
  by_cases c8 : t201 = true
  ·subst c8
   have H1 : ((spec_l2In.f a2 0 200).bind fun t202 => (spec_RunRing.j0 k l1 a2 (!t202) l0_0 l0_1)) = some (r1, r2, r3) := by rw [if_pos rfl] at H; exact H
   clear H; have H := H1; clear H1; replace H := Option.bind_eq_some_iff.mp H
   obtain ⟨t202, A90, H⟩ := H
   replace H : (spec_RunRing.j0 k l1 a2 (!t202) l0_0 l0_1) = some (r1, r2, r3) := H
   have A9 := Aside0.mk A90; clear A90; have H' := Aside0.mk H; clear H; have hnb10 := NB199_200.out; have hnc10 := NB200_199.out
   have hcz11_0 : w6.cell? ⟨gb199, 0, none⟩ = some (.slice A0_0 l0_0.length c0_0) := (blk_cell BK199.out 0).trans rfl
   have hcz11_1 : w6.cell? ⟨gb199, 1, none⟩ = some (.slice A0_1 l0_1.length c0_1) := (blk_cell BK199.out 1).trans rfl
   have hfz11_0 := blk_frozen BK199.out 0; have hfz11_1 := blk_frozen BK199.out 1
   go_wp2_with (first | ((with_reducible refine gate_callee (f := 25) rfl ?_); refine gL_ (some 12) Try.func25 #[.agg #[.slice A0_0 l0_0.length c0_0, .slice A0_1 l0_1.length c0_1], .slice A1 l1.length c1] ?_; (with_reducible refine (spec_l17WindsOk.calls k _ _ l0_0 _ _ l0_1 _ _ l1 true _ ?side1 ?side2 ?side3 ?side4 ?side5 ?side6 A7.out).mono ?_); (case side1 => exact cB_ HR0_0 HB); (case side2 => exact HC0_0.out); (case side3 => exact cB_ HR0_1 HB); (case side4 => exact HC0_1.out); (case side5 => exact cB_ HR1 HB); (case side6 => exact HC1.out); rintro e w12 ⟨rfl, hb⟩; refine ⟨_, rfl, ?_⟩; replace BK199 := bB_ BK199 hb; replace BK200 := bB_ BK200 hb; replace HB := bS_ HB hb; (try clear hb); (try clear hb2); (try clear hk); (try clear hi)) | (go_at_call 26; (with_reducible refine (spec_l2In.calls a2 0 200 t202 _ A9.out).mono ?_); rintro e w' ⟨rfl, ⟨nd, rfl⟩⟩))
   go_meet
   case rel => exact ⟨_, (!t202), (by first | rfl | (simp; done) | (simp [*]; done)), H', ⟨by first | omega | exact Nat.le_refl _⟩, ⟨by exact bT_ BK199⟩, ⟨by exact bT_ BK200⟩, ⟨by repeat (first | (with_reducible first | exact HB.out | apply below_alloc | apply pw_below_drewN | apply below_drew1 | refine below_set ?_ GE199.out | refine below_set ?_ GE200.out) | exact HB.out)⟩⟩
  ·replace c8 := Bool.eq_false_iff.mpr c8
   subst c8
   have H1 : (spec_RunRing.j0 k l1 a2 true l0_0 l0_1) = some (r1, r2, r3) := by rw [if_neg (show ¬ (false = true) by decide)] at H; exact H
   clear H; have H := H1; clear H1; have H' := Aside0.mk H; clear H; have hnb13 := NB199_200.out; have hnc13 := NB200_199.out
   have hcz14_0 : w6.cell? ⟨gb199, 0, none⟩ = some (.slice A0_0 l0_0.length c0_0) := (blk_cell BK199.out 0).trans rfl
   have hcz14_1 : w6.cell? ⟨gb199, 1, none⟩ = some (.slice A0_1 l0_1.length c0_1) := (blk_cell BK199.out 1).trans rfl
   have hfz14_0 := blk_frozen BK199.out 0; have hfz14_1 := blk_frozen BK199.out 1
   go_wp2_with (first | ((with_reducible refine gate_callee (f := 25) rfl ?_); refine gL_ (some 12) Try.func25 #[.agg #[.slice A0_0 l0_0.length c0_0, .slice A0_1 l0_1.length c0_1], .slice A1 l1.length c1] ?_; (with_reducible refine (spec_l17WindsOk.calls k _ _ l0_0 _ _ l0_1 _ _ l1 false _ ?side1 ?side2 ?side3 ?side4 ?side5 ?side6 A7.out).mono ?_); (case side1 => exact cB_ HR0_0 HB); (case side2 => exact HC0_0.out); (case side3 => exact cB_ HR0_1 HB); (case side4 => exact HC0_1.out); (case side5 => exact cB_ HR1 HB); (case side6 => exact HC1.out); rintro e w15 ⟨rfl, hb⟩; refine ⟨_, rfl, ?_⟩; replace BK199 := bB_ BK199 hb; replace BK200 := bB_ BK200 hb; replace HB := bS_ HB hb; (try clear hb); (try clear hb2); (try clear hk); (try clear hi)))
   go_meet
   case rel => exact ⟨_, (true), (by first | rfl | (simp; done) | (simp [*]; done)), H', ⟨by first | omega | exact Nat.le_refl _⟩, ⟨by exact bT_ BK199⟩, ⟨by exact bT_ BK200⟩, ⟨by repeat (first | (with_reducible first | exact HB.out | apply below_alloc | apply pw_below_drewN | apply below_drew1 | refine below_set ?_ GE199.out | refine below_set ?_ GE200.out) | exact HB.out)⟩⟩
 case rest =>
  clear HC4; (try clear c1); (try clear c2); (try clear p2); (try clear c8); (try clear c10); (try clear c13); (try clear hcz11_0); (try clear hcz11_1); (try clear hcz14_0); (try clear hcz14_1); (try clear hfz11_0); (try clear hfz11_1); (try clear hfz14_0); (try clear hfz14_1)
  obtain ⟨kq, x18_3, rfl, HA, HJ3, BK199, BK200, HB⟩ := hcut
  cases kq with
  | zero => exact absurd HA.out (by simp [spec_RunRing.j0])
  | succ kj3 =>
   have H := HA.out; clear HA
   simp only [spec_RunRing.j0] at H
   by_cases c16 : x18_3 = true
   ·subst c16
    have H1 : (some (([] : List Int), ([] : List Int), false)) = some (r1, r2, r3) := by rw [if_pos rfl] at H; exact H
    clear H; have H := H1; clear H1
    simp only [Option.some.injEq, Prod.mk.injEq] at H
    obtain ⟨rfl, rfl, rfl⟩ := H
    have hnb17 := NB200_199.out; have hnc17 := NB199_200.out
    have hcz18_0 : wc.cell? ⟨gb200, 0, none⟩ = some (.slice none 0 0) := (blk_cell BK200.out 0).trans rfl
    have hcz18_1 : wc.cell? ⟨gb200, 1, none⟩ = some (.slice none 0 0) := (blk_cell BK200.out 1).trans rfl
    have hfz18_0 := blk_frozen BK200.out 0; have hfz18_1 := blk_frozen BK200.out 1
    go_wp2
    refine bodyPost_ret (results_ct rfl _ _ gb200 26 #[.slice none 0 0, .slice none 0 0] (0, 0) _ rfl (by (with_reducible repeat (first | refine blk_drewN ?_ _ | refine blk_drew ?_ | refine blk_alloc ?_ _)); refine blk_put (cs := #[.slice none 0 0, .slice none 0 0]) ?_ 1 _ rfl; (with_reducible repeat (first | refine blk_drewN ?_ _ | refine blk_drew ?_ | refine blk_alloc ?_ _)); refine blk_put (cs := #[.slice none 0 0, .slice none 0 0]) ?_ 0 _ rfl; exact bT_ BK200) Try.underlying26 rfl (by kernel_rfl)) rfl ?_
    exact ⟨_, _, by first | rfl | (simp [errW_none, errW_some] <;> rfl) | (simp [*, errW_none, errW_some] <;> rfl), by first | exact Kd.R_nil _ _ _ _ _ | exact Kd.N_nil _ _ _ _ _ | exact Kd.V_nil _ _ _ _ _ | exact Kd.Q_nil _ _ _ _ _ | exact Kd.S_nil _ _ _ _ _, by first | exact Kd.R_nil _ _ _ _ _ | exact Kd.N_nil _ _ _ _ _ | exact Kd.V_nil _ _ _ _ _ | exact Kd.Q_nil _ _ _ _ _ | exact Kd.S_nil _ _ _ _ _, by repeat (first | (with_reducible first | exact HB.out | apply below_alloc | apply pw_below_drewN | apply below_drew1 | refine below_set ?_ GE199.out | refine below_set ?_ GE200.out) | exact HB.out)⟩
   ·replace c16 := Bool.eq_false_iff.mpr c16
    subst c16
    have H1 : ((some (([] : List Int) : List Int)).bind fun y203 => (if y203.length + l0_0.length < 17592186044416 then ((some (([] : List Int) : List Int)).bind fun y209 => (if y209.length + l0_1.length < 17592186044416 then (spec_RunRing.l0 kj3 l1 a2 0 (y203 ++ l0_0) (y209 ++ l0_1)) else (none))) else (none))) = some (r1, r2, r3) := by rw [if_neg (show ¬ (false = true) by decide)] at H; exact H
    clear H; have H := H1; clear H1
    obtain ⟨y203, hy203⟩ : ∃ y_ : List Int, y_ = (([] : List Int)) := ⟨_, rfl⟩
    replace H : (if y203.length + l0_0.length < 17592186044416 then ((some (([] : List Int) : List Int)).bind fun y209 => (if y209.length + l0_1.length < 17592186044416 then (spec_RunRing.l0 kj3 l1 a2 0 (y203 ++ l0_0) (y209 ++ l0_1)) else (none))) else (none)) = some (r1, r2, r3) := by first | (rw [hy203]; with_reducible exact H) | (have H2_ := (Option.bind_some _ _).symm.trans H; rw [hy203]; with_reducible exact H2_) | (have H2_ := (Option.bind_some _ _).symm.trans H; with_reducible exact H2_) | with_reducible exact H | (rw [hy203]; exact H) | exact H
    have Ny203 := Aside0.mk hy203; clear hy203
    obtain ⟨c19, H⟩ := ifS_ H
    have LMc19 := Aside0.mk c19; clear c19
    obtain ⟨y206, hy206⟩ : ∃ y_ : List Int, y_ = (y203 ++ l0_0) := ⟨_, rfl⟩
    replace H : ((some (([] : List Int) : List Int)).bind fun y209 => (if y209.length + l0_1.length < 17592186044416 then (spec_RunRing.l0 kj3 l1 a2 0 y206 (y209 ++ l0_1)) else (none))) = some (r1, r2, r3) := by first | (rw [hy206]; with_reducible exact H) | (have H2_ := (Option.bind_some _ _).symm.trans H; rw [hy206]; with_reducible exact H2_) | (have H2_ := (Option.bind_some _ _).symm.trans H; with_reducible exact H2_) | with_reducible exact H | (rw [hy206]; exact H) | exact H
    have Ny206 := Aside0.mk hy206; clear hy206
    obtain ⟨y209, hy209⟩ : ∃ y_ : List Int, y_ = (([] : List Int)) := ⟨_, rfl⟩
    replace H : (if y209.length + l0_1.length < 17592186044416 then (spec_RunRing.l0 kj3 l1 a2 0 y206 (y209 ++ l0_1)) else (none)) = some (r1, r2, r3) := by first | (rw [hy209]; with_reducible exact H) | (have H2_ := (Option.bind_some _ _).symm.trans H; rw [hy209]; with_reducible exact H2_) | (have H2_ := (Option.bind_some _ _).symm.trans H; with_reducible exact H2_) | with_reducible exact H | (rw [hy209]; exact H) | exact H
    have Ny209 := Aside0.mk hy209; clear hy209
    obtain ⟨c20, H⟩ := ifS_ H
    have LMc20 := Aside0.mk c20; clear c20
    obtain ⟨y212, hy212⟩ : ∃ y_ : List Int, y_ = (y209 ++ l0_1) := ⟨_, rfl⟩
    replace H : (spec_RunRing.l0 kj3 l1 a2 0 y206 y212) = some (r1, r2, r3) := by first | (rw [hy212]; with_reducible exact H) | (have H2_ := (Option.bind_some _ _).symm.trans H; rw [hy212]; with_reducible exact H2_) | (have H2_ := (Option.bind_some _ _).symm.trans H; with_reducible exact H2_) | with_reducible exact H | (rw [hy212]; exact H) | exact H
    have Ny212 := Aside0.mk hy212; clear hy212; have H' := Aside0.mk H; clear H
    try go_wp2
    replace BK199 := Aside0.mk (blk_drew BK199.out)
    replace BK200 := Aside0.mk (blk_drew BK200.out)
    replace HB := Aside0.mk (below_drew1 HB.out)
    refine start_ (n := 11) (S := fun w' => w'.cell? ⟨gb199, 0, none⟩ = some (.slice A0_0 l0_0.length c0_0) ∧ w'.cell? ⟨gb199, 1, none⟩ = some (.slice A0_1 l0_1.length c0_1)) (ds := []) #[false, false, false, false, false, false, false, false, false, false, false] (by kernel_rfl) rfl rfl ⟨(blk_cell BK199.out 0).trans rfl, (blk_cell BK199.out 1).trans rfl⟩ (fun hHeld => ?_); refine with_tabW spec_RunRing.tab3 spec_RunRing.bits3 (fun HT_ HW_ => ?_)
    generalize wc.drew = w21 at BK199 BK200 HB hHeld ⊢
    refine pT_ 1 (some 21) #[false, true, false, false, false, false, false, false, false, false, false] HT_ ?_
    refine pT_ 5 (some 25) #[false, true, false, false, false, true, false, false, false, false, false] HT_ ?_
    refine tT_ 2 (some 22) #[false, true, true, false, false, true, false, false, false, false, false] HT_ HW_ hHeld ?_ (hy := by rintro w' ⟨s0, s1⟩; go_simp; with_reducible rfl)
    refine tT_ 6 (some 26) #[false, true, true, false, false, true, true, false, false, false, false] HT_ HW_ hHeld ?_ (hy := by rintro w' ⟨s0, s1⟩; go_simp; with_reducible rfl)
    refine join_ (σ := Value × Value × Value × Value × Nat) 1 #[true, true, true, true, true, true, true, true, true, true, false] (fun s_ => [(20, s_.1), (23, s_.2.1), (24, s_.2.2.1), (27, s_.2.2.2.1), (8, .pointer (some ⟨s_.2.2.2.2, 0, none⟩)), (28, .agg #[s_.2.1, s_.2.2.2.1])]) (fun s_ w' => (w'.cell? ⟨gb199, 0, none⟩ = some (.slice A0_0 l0_0.length c0_0) ∧ w'.cell? ⟨gb199, 1, none⟩ = some (.slice A0_1 l0_1.length c0_1)) ∧ (Kd.R (Kd.int .i64) 2 w' w.heap.size (fun k_ => some k_ ≠ (s_.2.2.2.1 : Value).ownBlock) s_.2.1 y206) ∧ (Kd.R (Kd.int .i64) 2 w' w.heap.size (fun k_ => some k_ ≠ (s_.2.1 : Value).ownBlock) s_.2.2.2.1 y212) ∧ (w'.heap[gb199]? = some (.cells #[.slice A0_0 l0_0.length c0_0, .slice A0_1 l0_1.length c0_1] 26 (0, 0))) ∧ (w'.heap[gb200]? = some (.cells #[.slice none 0 0, .slice none 0 0] 26 (0, 0))) ∧ (w'.heap[s_.2.2.2.2]? = some (.cells #[.slice none 0 0, .slice none 0 0] 26 (0, 0))) ∧ (w.heap.size ≤ s_.2.2.2.2) ∧ (w.heap.size ≤ s_.2.2.2.2) ∧ (gb199 ≠ s_.2.2.2.2) ∧ (s_.2.2.2.2 ≠ gb199) ∧ (gb200 ≠ s_.2.2.2.2) ∧ (s_.2.2.2.2 ≠ gb200) ∧ (Below w.heap.size w w')) ?_ ?_
    rotate_left
    ·intro hJ0_3_4_7_9
     refine join_ (σ := Value × Value × Value × Value) 2 #[true, true, true, true, true, true, true, true, true, false, false] (fun s_ => [(20, s_.1), (23, s_.2.1), (24, s_.2.2.1), (27, s_.2.2.2), (28, .agg #[s_.2.1, s_.2.2.2])]) (fun s_ w' => (w'.cell? ⟨gb199, 0, none⟩ = some (.slice A0_0 l0_0.length c0_0) ∧ w'.cell? ⟨gb199, 1, none⟩ = some (.slice A0_1 l0_1.length c0_1)) ∧ (Kd.R (Kd.int .i64) 2 w' w.heap.size (fun k_ => some k_ ≠ (s_.2.2.2 : Value).ownBlock) s_.2.1 y206) ∧ (Kd.R (Kd.int .i64) 2 w' w.heap.size (fun k_ => some k_ ≠ (s_.2.1 : Value).ownBlock) s_.2.2.2 y212) ∧ (w'.heap[gb199]? = some (.cells #[.slice A0_0 l0_0.length c0_0, .slice A0_1 l0_1.length c0_1] 26 (0, 0))) ∧ (w'.heap[gb200]? = some (.cells #[.slice none 0 0, .slice none 0 0] 26 (0, 0))) ∧ (Below w.heap.size w w')) ?_ ?_
     rotate_left
     ·intro hJ0_3_4_7
      refine join_ (σ := Value × Value × Value × Nat) 3 #[true, true, true, true, true, true, true, false, false, true, false] (fun s_ => [(20, s_.1), (23, s_.2.1), (24, s_.2.2.1), (8, .pointer (some ⟨s_.2.2.2, 0, none⟩))]) (fun s_ w' => (w'.cell? ⟨gb199, 0, none⟩ = some (.slice A0_0 l0_0.length c0_0) ∧ w'.cell? ⟨gb199, 1, none⟩ = some (.slice A0_1 l0_1.length c0_1)) ∧ (Kd.R (Kd.int .i64) 2 w' w.heap.size (fun k_ => some k_ ≠ (s_.2.2.1 : Value).ownBlock) s_.2.1 y206) ∧ (Kd.R (Kd.int .i64) 2 w' w.heap.size (fun k_ => some k_ ≠ (s_.2.1 : Value).ownBlock) s_.2.2.1 y209) ∧ (w'.heap[gb199]? = some (.cells #[.slice A0_0 l0_0.length c0_0, .slice A0_1 l0_1.length c0_1] 26 (0, 0))) ∧ (w'.heap[gb200]? = some (.cells #[.slice none 0 0, .slice none 0 0] 26 (0, 0))) ∧ (w'.heap[s_.2.2.2]? = some (.cells #[.slice none 0 0, .slice none 0 0] 26 (0, 0))) ∧ (w.heap.size ≤ s_.2.2.2) ∧ (w.heap.size ≤ s_.2.2.2) ∧ (gb199 ≠ s_.2.2.2) ∧ (s_.2.2.2 ≠ gb199) ∧ (gb200 ≠ s_.2.2.2) ∧ (s_.2.2.2 ≠ gb200) ∧ (Below w.heap.size w w')) ?_ ?_
      rotate_left
      ·intro hJ0_3_4_9
       refine join_ (σ := Value × Value × Value) 4 #[true, true, true, true, true, true, true, false, false, false, false] (fun s_ => [(20, s_.1), (23, s_.2.1), (24, s_.2.2)]) (fun s_ w' => (w'.cell? ⟨gb199, 0, none⟩ = some (.slice A0_0 l0_0.length c0_0) ∧ w'.cell? ⟨gb199, 1, none⟩ = some (.slice A0_1 l0_1.length c0_1)) ∧ (Kd.R (Kd.int .i64) 2 w' w.heap.size (fun k_ => some k_ ≠ (s_.2.2 : Value).ownBlock) s_.2.1 y206) ∧ (Kd.R (Kd.int .i64) 2 w' w.heap.size (fun k_ => some k_ ≠ (s_.2.1 : Value).ownBlock) s_.2.2 y209) ∧ (w'.heap[gb199]? = some (.cells #[.slice A0_0 l0_0.length c0_0, .slice A0_1 l0_1.length c0_1] 26 (0, 0))) ∧ (w'.heap[gb200]? = some (.cells #[.slice none 0 0, .slice none 0 0] 26 (0, 0))) ∧ (Below w.heap.size w w')) ?_ ?_
       rotate_left
       ·intro hJ0_3_4
        refine join_ (σ := Value × Value × Nat) 4 #[true, true, true, true, false, true, true, false, false, true, false] (fun s_ => [(20, s_.1), (23, s_.2.1), (8, .pointer (some ⟨s_.2.2, 0, none⟩))]) (fun s_ w' => (w'.cell? ⟨gb199, 0, none⟩ = some (.slice A0_0 l0_0.length c0_0) ∧ w'.cell? ⟨gb199, 1, none⟩ = some (.slice A0_1 l0_1.length c0_1)) ∧ (Kd.R (Kd.int .i64) 2 w' w.heap.size (fun _ => True) s_.2.1 y206) ∧ (w'.heap[gb199]? = some (.cells #[.slice A0_0 l0_0.length c0_0, .slice A0_1 l0_1.length c0_1] 26 (0, 0))) ∧ (w'.heap[gb200]? = some (.cells #[.slice none 0 0, .slice none 0 0] 26 (0, 0))) ∧ (w'.heap[s_.2.2]? = some (.cells #[.slice none 0 0, .slice none 0 0] 26 (0, 0))) ∧ (w.heap.size ≤ s_.2.2) ∧ (w.heap.size ≤ s_.2.2) ∧ (gb199 ≠ s_.2.2) ∧ (s_.2.2 ≠ gb199) ∧ (gb200 ≠ s_.2.2) ∧ (s_.2.2 ≠ gb200) ∧ (Below w.heap.size w w')) ?_ ?_
        rotate_left
        ·intro hJ0_3_9
         refine join_ (σ := Value × Value × Nat) 4 #[true, true, true, false, true, true, true, false, false, true, false] (fun s_ => [(20, s_.1), (24, s_.2.1), (8, .pointer (some ⟨s_.2.2, 0, none⟩))]) (fun s_ w' => (w'.cell? ⟨gb199, 0, none⟩ = some (.slice A0_0 l0_0.length c0_0) ∧ w'.cell? ⟨gb199, 1, none⟩ = some (.slice A0_1 l0_1.length c0_1)) ∧ (Kd.R (Kd.int .i64) 2 w' w.heap.size (fun k_ => some k_ ≠ (s_.2.1 : Value).ownBlock) s_.1 y203) ∧ (Kd.R (Kd.int .i64) 2 w' w.heap.size (fun k_ => some k_ ≠ (s_.1 : Value).ownBlock) s_.2.1 y209) ∧ (w'.heap[gb199]? = some (.cells #[.slice A0_0 l0_0.length c0_0, .slice A0_1 l0_1.length c0_1] 26 (0, 0))) ∧ (w'.heap[gb200]? = some (.cells #[.slice none 0 0, .slice none 0 0] 26 (0, 0))) ∧ (w'.heap[s_.2.2]? = some (.cells #[.slice none 0 0, .slice none 0 0] 26 (0, 0))) ∧ (w.heap.size ≤ s_.2.2) ∧ (w.heap.size ≤ s_.2.2) ∧ (gb199 ≠ s_.2.2) ∧ (s_.2.2 ≠ gb199) ∧ (gb200 ≠ s_.2.2) ∧ (s_.2.2 ≠ gb200) ∧ (Below w.heap.size w w')) ?_ ?_
         rotate_left
         ·intro hJ0_4_9
          refine join_ (σ := Value × Value) 5 #[true, true, true, true, false, true, true, false, false, false, false] (fun s_ => [(20, s_.1), (23, s_.2)]) (fun s_ w' => (w'.cell? ⟨gb199, 0, none⟩ = some (.slice A0_0 l0_0.length c0_0) ∧ w'.cell? ⟨gb199, 1, none⟩ = some (.slice A0_1 l0_1.length c0_1)) ∧ (Kd.R (Kd.int .i64) 2 w' w.heap.size (fun _ => True) s_.2 y206) ∧ (w'.heap[gb199]? = some (.cells #[.slice A0_0 l0_0.length c0_0, .slice A0_1 l0_1.length c0_1] 26 (0, 0))) ∧ (w'.heap[gb200]? = some (.cells #[.slice none 0 0, .slice none 0 0] 26 (0, 0))) ∧ (Below w.heap.size w w')) ?_ ?_
          rotate_left
          ·intro hJ0_3
           refine join_ (σ := Value × Value) 5 #[true, true, true, false, true, true, true, false, false, false, false] (fun s_ => [(20, s_.1), (24, s_.2)]) (fun s_ w' => (w'.cell? ⟨gb199, 0, none⟩ = some (.slice A0_0 l0_0.length c0_0) ∧ w'.cell? ⟨gb199, 1, none⟩ = some (.slice A0_1 l0_1.length c0_1)) ∧ (Kd.R (Kd.int .i64) 2 w' w.heap.size (fun k_ => some k_ ≠ (s_.2 : Value).ownBlock) s_.1 y203) ∧ (Kd.R (Kd.int .i64) 2 w' w.heap.size (fun k_ => some k_ ≠ (s_.1 : Value).ownBlock) s_.2 y209) ∧ (w'.heap[gb199]? = some (.cells #[.slice A0_0 l0_0.length c0_0, .slice A0_1 l0_1.length c0_1] 26 (0, 0))) ∧ (w'.heap[gb200]? = some (.cells #[.slice none 0 0, .slice none 0 0] 26 (0, 0))) ∧ (Below w.heap.size w w')) ?_ ?_
           rotate_left
           ·intro hJ0_4
            refine join_ (σ := Value × Nat) 5 #[true, true, true, false, false, true, true, false, false, true, false] (fun s_ => [(20, s_.1), (8, .pointer (some ⟨s_.2, 0, none⟩))]) (fun s_ w' => (w'.cell? ⟨gb199, 0, none⟩ = some (.slice A0_0 l0_0.length c0_0) ∧ w'.cell? ⟨gb199, 1, none⟩ = some (.slice A0_1 l0_1.length c0_1)) ∧ (Kd.R (Kd.int .i64) 2 w' w.heap.size (fun _ => True) s_.1 y203) ∧ (w'.heap[gb199]? = some (.cells #[.slice A0_0 l0_0.length c0_0, .slice A0_1 l0_1.length c0_1] 26 (0, 0))) ∧ (w'.heap[gb200]? = some (.cells #[.slice none 0 0, .slice none 0 0] 26 (0, 0))) ∧ (w'.heap[s_.2]? = some (.cells #[.slice none 0 0, .slice none 0 0] 26 (0, 0))) ∧ (w.heap.size ≤ s_.2) ∧ (w.heap.size ≤ s_.2) ∧ (gb199 ≠ s_.2) ∧ (s_.2 ≠ gb199) ∧ (gb200 ≠ s_.2) ∧ (s_.2 ≠ gb200) ∧ (Below w.heap.size w w')) ?_ ?_
            rotate_left
            ·intro hJ0_9
             refine join_ (σ := Value × Nat) 5 #[false, true, true, false, true, true, true, false, false, true, false] (fun s_ => [(24, s_.1), (8, .pointer (some ⟨s_.2, 0, none⟩))]) (fun s_ w' => (w'.cell? ⟨gb199, 0, none⟩ = some (.slice A0_0 l0_0.length c0_0) ∧ w'.cell? ⟨gb199, 1, none⟩ = some (.slice A0_1 l0_1.length c0_1)) ∧ (Kd.R (Kd.int .i64) 2 w' w.heap.size (fun _ => True) s_.1 y209) ∧ (w'.heap[gb199]? = some (.cells #[.slice A0_0 l0_0.length c0_0, .slice A0_1 l0_1.length c0_1] 26 (0, 0))) ∧ (w'.heap[gb200]? = some (.cells #[.slice none 0 0, .slice none 0 0] 26 (0, 0))) ∧ (w'.heap[s_.2]? = some (.cells #[.slice none 0 0, .slice none 0 0] 26 (0, 0))) ∧ (w.heap.size ≤ s_.2) ∧ (w.heap.size ≤ s_.2) ∧ (gb199 ≠ s_.2) ∧ (s_.2 ≠ gb199) ∧ (gb200 ≠ s_.2) ∧ (s_.2 ≠ gb200) ∧ (Below w.heap.size w w')) ?_ ?_
             rotate_left
             ·intro hJ4_9
              refine join_ (σ := Value) 6 #[true, true, true, false, false, true, true, false, false, false, false] (fun s_ => [(20, s_)]) (fun s_ w' => (w'.cell? ⟨gb199, 0, none⟩ = some (.slice A0_0 l0_0.length c0_0) ∧ w'.cell? ⟨gb199, 1, none⟩ = some (.slice A0_1 l0_1.length c0_1)) ∧ (Kd.R (Kd.int .i64) 2 w' w.heap.size (fun _ => True) s_ y203) ∧ (w'.heap[gb199]? = some (.cells #[.slice A0_0 l0_0.length c0_0, .slice A0_1 l0_1.length c0_1] 26 (0, 0))) ∧ (w'.heap[gb200]? = some (.cells #[.slice none 0 0, .slice none 0 0] 26 (0, 0))) ∧ (Below w.heap.size w w')) ?_ ?_
              rotate_left
              ·intro hJ0
               refine join_ (σ := Value) 6 #[false, true, true, false, true, true, true, false, false, false, false] (fun s_ => [(24, s_)]) (fun s_ w' => (w'.cell? ⟨gb199, 0, none⟩ = some (.slice A0_0 l0_0.length c0_0) ∧ w'.cell? ⟨gb199, 1, none⟩ = some (.slice A0_1 l0_1.length c0_1)) ∧ (Kd.R (Kd.int .i64) 2 w' w.heap.size (fun _ => True) s_ y209) ∧ (w'.heap[gb199]? = some (.cells #[.slice A0_0 l0_0.length c0_0, .slice A0_1 l0_1.length c0_1] 26 (0, 0))) ∧ (w'.heap[gb200]? = some (.cells #[.slice none 0 0, .slice none 0 0] 26 (0, 0))) ∧ (Below w.heap.size w w')) ?_ ?_
               rotate_left
               ·intro hJ4
                refine join_ (σ := Nat) 6 #[false, true, true, false, false, true, true, false, false, true, false] (fun s_ => [(8, .pointer (some ⟨s_, 0, none⟩))]) (fun s_ w' => (w'.cell? ⟨gb199, 0, none⟩ = some (.slice A0_0 l0_0.length c0_0) ∧ w'.cell? ⟨gb199, 1, none⟩ = some (.slice A0_1 l0_1.length c0_1)) ∧ (w'.heap[gb199]? = some (.cells #[.slice A0_0 l0_0.length c0_0, .slice A0_1 l0_1.length c0_1] 26 (0, 0))) ∧ (w'.heap[gb200]? = some (.cells #[.slice none 0 0, .slice none 0 0] 26 (0, 0))) ∧ (w'.heap[s_]? = some (.cells #[.slice none 0 0, .slice none 0 0] 26 (0, 0))) ∧ (w.heap.size ≤ s_) ∧ (w.heap.size ≤ s_) ∧ (gb199 ≠ s_) ∧ (s_ ≠ gb199) ∧ (gb200 ≠ s_) ∧ (s_ ≠ gb200) ∧ (Below w.heap.size w w')) ?_ ?_
                rotate_left
                ·intro hJ9
                 refine three_ (i := 0) (j := 4) (k := 9) (Ni := some 20) (Nj := some 24) (Nk := some 8) #[true, true, true, false, false, true, true, false, false, false, false] #[false, true, true, false, true, true, true, false, false, false, false] #[false, true, true, false, false, true, true, false, false, true, false] rfl rfl rfl rfl rfl rfl (three_of HT_.out (by kernel_rfl)) (by decide) (by decide) (by decide) (fun K hK => ?_) (fun K hK => ?_) (fun K hK => ?_)
                 ·skip
                  refine Kd.R_lit_step (Kd.int .i64) _ 2 ?hg (N := 20) ?hd (xs := ([] : List Int)) (inner := []) (ok := fun _ => True) (okp := fun _ => True) ?hr ?hp (fun _ hk => hk) trivial (Below.refl _ _) (Nat.le_refl _) (by simp) ?_; (case hd => rfl); (case hg => rfl); (case hr => first | (go_simp; done) | (go_simp; rfl)); (case hp => exact (Reps.none _ _))
                  intro v204 w22 ho23 hb hg_ hnew_
                  clear hg_ hnew_
                  (first | rw [← Ny203.out] at ho23 | (simp only [Int.reduceToNat] at ho23; rw [← Ny203.out] at ho23))
                  have HO205 := rL_ ho23 HB; replace BK199 := bB_ BK199 hb; replace BK200 := bB_ BK200 hb; replace HB := bS_ HB hb; clear hb ho23
                  refine hK.out _ _ ⟨(blk_cell BK199.out 0).trans rfl, (blk_cell BK199.out 1).trans rfl⟩ (fun hHeld => ?_)
                  clear hK K
                  refine nS_ (some 20) ?_
                  exact norm_ (by simp only [putAll, Act.put, List.setIfInBounds_toArray, List.set_cons_zero, List.set_cons_succ] <;> rfl) (hJ0 (v204) _ ⟨hHeld, (rT_ HO205), (bT_ BK199), (bT_ BK200), (by repeat (first | (with_reducible first | exact HB.out | apply below_alloc | apply pw_below_drewN | apply below_drew1 | refine below_set ?_ GE199.out | refine below_set ?_ GE200.out) | exact HB.out))⟩)
                 ·skip
                  refine Kd.R_lit_step (Kd.int .i64) _ 2 ?hg (N := 24) ?hd (xs := ([] : List Int)) (inner := []) (ok := fun _ => True) (okp := fun _ => True) ?hr ?hp (fun _ hk => hk) trivial (Below.refl _ _) (Nat.le_refl _) (by simp) ?_; (case hd => rfl); (case hg => rfl); (case hr => first | (go_simp; done) | (go_simp; rfl)); (case hp => exact (Reps.none _ _))
                  intro v210 w22 ho23 hb hg_ hnew_
                  clear hg_ hnew_
                  (first | rw [← Ny209.out] at ho23 | (simp only [Int.reduceToNat] at ho23; rw [← Ny209.out] at ho23))
                  have HO211 := rL_ ho23 HB; replace BK199 := bB_ BK199 hb; replace BK200 := bB_ BK200 hb; replace HB := bS_ HB hb; clear hb ho23
                  refine hK.out _ _ ⟨(blk_cell BK199.out 0).trans rfl, (blk_cell BK199.out 1).trans rfl⟩ (fun hHeld => ?_)
                  clear hK K
                  refine nS_ (some 24) ?_
                  exact norm_ (by simp only [putAll, Act.put, List.setIfInBounds_toArray, List.set_cons_zero, List.set_cons_succ] <;> rfl) (hJ4 (v210) _ ⟨hHeld, (rT_ HO211), (bT_ BK199), (bT_ BK200), (by repeat (first | (with_reducible first | exact HB.out | apply below_alloc | apply pw_below_drewN | apply below_drew1 | refine below_set ?_ GE199.out | refine below_set ?_ GE200.out) | exact HB.out))⟩)
                 ·skip
                  refine box_step ?hg (N := 8) ?hd (cs := #[.slice none 0 0, .slice none 0 0]) (t := 26) ?hr ?_; (case hd => rfl); (case hg => rfl); (case hr => first | (go_simp; done) | (go_simp; rfl))
                  intro gb215 hg w22 hbox hb
                  have BK215 := Aside0.mk (hbox)
                  have GW215 := gE_ HB hg; have GE215 := gE_ HB hg; replace HB := bS_ HB hb; have NB199_215 := nL_ BK199 hg; have NB215_199 := nG_ BK199 hg; replace BK199 := bB_ BK199 hb; have NB200_215 := nL_ BK200 hg; have NB215_200 := nG_ BK200 hg; replace BK200 := bB_ BK200 hb; clear hb hbox hg
                  refine hK.out _ _ ⟨(blk_cell BK199.out 0).trans rfl, (blk_cell BK199.out 1).trans rfl⟩ (fun hHeld => ?_)
                  clear hK K
                  refine nS_ (some 8) ?_
                  exact norm_ (by simp only [putAll, Act.put, List.setIfInBounds_toArray, List.set_cons_zero, List.set_cons_succ] <;> rfl) (hJ9 (gb215) _ ⟨hHeld, (bT_ BK199), (bT_ BK200), (bT_ BK215), GW215.out, GE215.out, NB199_215.out, NB215_199.out, NB200_215.out, NB215_200.out, (by repeat (first | (with_reducible first | exact HB.out | apply below_alloc | apply pw_below_drewN | apply below_drew1 | refine below_set ?_ GE199.out | refine below_set ?_ GE200.out | refine below_set ?_ GE215.out) | exact HB.out))⟩)
                ·skip
                 rintro gb215 w23 ⟨hS_, h0_, h1_, h2_, h3_, h4_, h5_, h6_, h7_, h8_, h9_⟩
                 try dsimp only at h0_ h1_ h2_ h3_ h4_ h5_ h6_ h7_ h8_ h9_
                 replace BK199 := Aside0.mk h0_; replace BK200 := Aside0.mk h1_; have BK215 := Aside0.mk h2_; have GW215 := Aside0.mk h3_; have GE215 := Aside0.mk h4_; have NB199_215 := Aside0.mk h5_; have NB215_199 := Aside0.mk h6_; have NB200_215 := Aside0.mk h7_; have NB215_200 := Aside0.mk h8_; replace HB := Aside0.mk h9_; clear h0_ h1_ h2_ h3_ h4_ h5_ h6_ h7_ h8_ h9_
                 have hHeld : w23.cell? ⟨gb199, 0, none⟩ = some (.slice A0_0 l0_0.length c0_0) ∧ w23.cell? ⟨gb199, 1, none⟩ = some (.slice A0_1 l0_1.length c0_1) := hS_
                 refine norm_ (a' := ?_) ?_ ?_
                 rotate_left
                 ·simp only [putAll, Act.put, List.setIfInBounds_toArray, List.set_cons_zero, List.set_cons_succ]
                  rfl
                 refine two_ (i := 0) (j := 4) (Ni := some 20) (Nj := some 24) #[true, true, true, false, false, true, true, false, false, true, false] #[false, true, true, false, true, true, true, false, false, true, false] rfl rfl rfl rfl (two_of HT_.out (by kernel_rfl)) (by decide) (by decide) (fun K hK => ?_) (fun K hK => ?_)
                 ·skip
                  refine Kd.R_lit_step (Kd.int .i64) _ 2 ?hg (N := 20) ?hd (xs := ([] : List Int)) (inner := []) (ok := fun _ => True) (okp := fun _ => True) ?hr ?hp (fun _ hk => hk) trivial (Below.refl _ _) (Nat.le_refl _) (by simp) ?_; (case hd => rfl); (case hg => rfl); (case hr => first | (go_simp; done) | (go_simp; rfl)); (case hp => exact (Reps.none _ _))
                  intro v204 w24 ho25 hb hg_ hnew_
                  clear hg_ hnew_
                  (first | rw [← Ny203.out] at ho25 | (simp only [Int.reduceToNat] at ho25; rw [← Ny203.out] at ho25))
                  have HO205 := rL_ ho25 HB; replace BK199 := bB_ BK199 hb; replace BK200 := bB_ BK200 hb; replace BK215 := bB_ BK215 hb; replace HB := bS_ HB hb; clear hb ho25
                  refine hK.out _ _ ⟨(blk_cell BK199.out 0).trans rfl, (blk_cell BK199.out 1).trans rfl⟩ (fun hHeld => ?_)
                  clear hK K
                  refine nS_ (some 20) ?_
                  exact norm_ (by simp only [putAll, Act.put, List.setIfInBounds_toArray, List.set_cons_zero, List.set_cons_succ] <;> rfl) (hJ0_9 (v204, gb215) _ ⟨hHeld, (rT_ HO205), (bT_ BK199), (bT_ BK200), (bT_ BK215), GW215.out, GE215.out, NB199_215.out, NB215_199.out, NB200_215.out, NB215_200.out, (by repeat (first | (with_reducible first | exact HB.out | apply below_alloc | apply pw_below_drewN | apply below_drew1 | refine below_set ?_ GE199.out | refine below_set ?_ GE200.out | refine below_set ?_ GE215.out) | exact HB.out))⟩)
                 ·skip
                  refine Kd.R_lit_step (Kd.int .i64) _ 2 ?hg (N := 24) ?hd (xs := ([] : List Int)) (inner := []) (ok := fun _ => True) (okp := fun _ => True) ?hr ?hp (fun _ hk => hk) trivial (Below.refl _ _) (Nat.le_refl _) (by simp) ?_; (case hd => rfl); (case hg => rfl); (case hr => first | (go_simp; done) | (go_simp; rfl)); (case hp => exact (Reps.none _ _))
                  intro v210 w24 ho25 hb hg_ hnew_
                  clear hg_ hnew_
                  (first | rw [← Ny209.out] at ho25 | (simp only [Int.reduceToNat] at ho25; rw [← Ny209.out] at ho25))
                  have HO211 := rL_ ho25 HB; replace BK199 := bB_ BK199 hb; replace BK200 := bB_ BK200 hb; replace BK215 := bB_ BK215 hb; replace HB := bS_ HB hb; clear hb ho25
                  refine hK.out _ _ ⟨(blk_cell BK199.out 0).trans rfl, (blk_cell BK199.out 1).trans rfl⟩ (fun hHeld => ?_)
                  clear hK K
                  refine nS_ (some 24) ?_
                  exact norm_ (by simp only [putAll, Act.put, List.setIfInBounds_toArray, List.set_cons_zero, List.set_cons_succ] <;> rfl) (hJ4_9 (v210, gb215) _ ⟨hHeld, (rT_ HO211), (bT_ BK199), (bT_ BK200), (bT_ BK215), GW215.out, GE215.out, NB199_215.out, NB215_199.out, NB200_215.out, NB215_200.out, (by repeat (first | (with_reducible first | exact HB.out | apply below_alloc | apply pw_below_drewN | apply below_drew1 | refine below_set ?_ GE199.out | refine below_set ?_ GE200.out | refine below_set ?_ GE215.out) | exact HB.out))⟩)
               ·skip
                rintro v210 w24 ⟨hS_, h0_, h1_, h2_, h3_⟩
                try dsimp only at h0_ h1_ h2_ h3_
                have HO211 := Aside0.mk h0_; replace BK199 := Aside0.mk h1_; replace BK200 := Aside0.mk h2_; replace HB := Aside0.mk h3_; clear h0_ h1_ h2_ h3_
                have hHeld : w24.cell? ⟨gb199, 0, none⟩ = some (.slice A0_0 l0_0.length c0_0) ∧ w24.cell? ⟨gb199, 1, none⟩ = some (.slice A0_1 l0_1.length c0_1) := hS_
                refine norm_ (a' := ?_) ?_ ?_
                rotate_left
                ·simp only [putAll, Act.put, List.setIfInBounds_toArray, List.set_cons_zero, List.set_cons_succ]
                 rfl
                refine two_ (i := 0) (j := 9) (Ni := some 20) (Nj := some 8) #[true, true, true, false, true, true, true, false, false, false, false] #[false, true, true, false, true, true, true, false, false, true, false] rfl rfl rfl rfl (two_of HT_.out (by kernel_rfl)) (by decide) (by decide) (fun K hK => ?_) (fun K hK => ?_)
                ·skip
                 refine Kd.R_lit_step (Kd.int .i64) _ 2 ?hg (N := 20) ?hd (xs := ([] : List Int)) (inner := []) (ok := fun _ => True) (okp := fun _ => True) ?hr ?hp (fun _ hk => hk) trivial (Below.refl _ _) (Nat.le_refl _) (by simp) ?_; (case hd => rfl); (case hg => rfl); (case hr => first | (go_simp; done) | (go_simp; rfl)); (case hp => exact (Reps.none _ _))
                 intro v204 w25 ho26 hb hg_ hnew_
                 clear hg_ hnew_
                 (first | rw [← Ny203.out] at ho26 | (simp only [Int.reduceToNat] at ho26; rw [← Ny203.out] at ho26))
                 have HO205 := rL_ (rN_ ho26 HO211) HB
                 replace HO211 := rE_ HO211 ho26 hb; replace BK199 := bB_ BK199 hb; replace BK200 := bB_ BK200 hb; replace HB := bS_ HB hb; clear hb ho26
                 refine hK.out _ _ ⟨(blk_cell BK199.out 0).trans rfl, (blk_cell BK199.out 1).trans rfl⟩ (fun hHeld => ?_)
                 clear hK K
                 refine nS_ (some 20) ?_
                 exact norm_ (by simp only [putAll, Act.put, List.setIfInBounds_toArray, List.set_cons_zero, List.set_cons_succ] <;> rfl) (hJ0_4 (v204, v210) _ ⟨hHeld, (rM_ HO205), (rM_ HO211), (bT_ BK199), (bT_ BK200), (by repeat (first | (with_reducible first | exact HB.out | apply below_alloc | apply pw_below_drewN | apply below_drew1 | refine below_set ?_ GE199.out | refine below_set ?_ GE200.out) | exact HB.out))⟩)
                ·skip
                 refine box_step ?hg (N := 8) ?hd (cs := #[.slice none 0 0, .slice none 0 0]) (t := 26) ?hr ?_; (case hd => rfl); (case hg => rfl); (case hr => first | (go_simp; done) | (go_simp; rfl))
                 intro gb215 hg w25 hbox hb
                 replace HO211 := rB_ HO211 hb
                 have BK215 := Aside0.mk (hbox)
                 have GW215 := gE_ HB hg; have GE215 := gE_ HB hg; replace HB := bS_ HB hb; have NB199_215 := nL_ BK199 hg; have NB215_199 := nG_ BK199 hg; replace BK199 := bB_ BK199 hb; have NB200_215 := nL_ BK200 hg; have NB215_200 := nG_ BK200 hg; replace BK200 := bB_ BK200 hb; clear hb hbox hg
                 refine hK.out _ _ ⟨(blk_cell BK199.out 0).trans rfl, (blk_cell BK199.out 1).trans rfl⟩ (fun hHeld => ?_)
                 clear hK K
                 refine nS_ (some 8) ?_
                 exact norm_ (by simp only [putAll, Act.put, List.setIfInBounds_toArray, List.set_cons_zero, List.set_cons_succ] <;> rfl) (hJ4_9 (v210, gb215) _ ⟨hHeld, (rT_ HO211), (bT_ BK199), (bT_ BK200), (bT_ BK215), GW215.out, GE215.out, NB199_215.out, NB215_199.out, NB200_215.out, NB215_200.out, (by repeat (first | (with_reducible first | exact HB.out | apply below_alloc | apply pw_below_drewN | apply below_drew1 | refine below_set ?_ GE199.out | refine below_set ?_ GE200.out | refine below_set ?_ GE215.out) | exact HB.out))⟩)
              ·skip
               rintro v204 w24 ⟨hS_, h0_, h1_, h2_, h3_⟩
               try dsimp only at h0_ h1_ h2_ h3_
               have HO205 := Aside0.mk h0_; replace BK199 := Aside0.mk h1_; replace BK200 := Aside0.mk h2_; replace HB := Aside0.mk h3_; clear h0_ h1_ h2_ h3_
               have hHeld : w24.cell? ⟨gb199, 0, none⟩ = some (.slice A0_0 l0_0.length c0_0) ∧ w24.cell? ⟨gb199, 1, none⟩ = some (.slice A0_1 l0_1.length c0_1) := hS_
               refine norm_ (a' := ?_) ?_ ?_
               rotate_left
               ·simp only [putAll, Act.put, List.setIfInBounds_toArray, List.set_cons_zero, List.set_cons_succ]
                rfl
               refine three_ (i := 3) (j := 4) (k := 9) (Ni := some 23) (Nj := some 24) (Nk := some 8) #[true, true, true, true, false, true, true, false, false, false, false] #[true, true, true, false, true, true, true, false, false, false, false] #[true, true, true, false, false, true, true, false, false, true, false] rfl rfl rfl rfl rfl rfl (three_of HT_.out (by kernel_rfl)) (by decide) (by decide) (by decide) (fun K hK => ?_) (fun K hK => ?_) (fun K hK => ?_)
               ·skip
                refine Kd.R_append_rows_step (Kd.int .i64) (w0 := w) w.heap.size (by rfl) (.tmp 20) (.tmp 22) 22 2 (.int .i64 0) 8 rfl Try.underlying22 info2 rfl (by decide) (by omega) v204 y203 l0_0 _ _ _ (fun _ => True) (fun _ => False) rfl rfl ?aO ?aR (fun _ _ h => h) (fun _ h => h.elim) ?aF ?aB ?aS ?aL ?_
                (case aR => repeat (first | exact (Kd.C_below HR0_0.out HB.out) | (with_reducible refine Kd.C_alloc ?_ _) | (with_reducible refine Kd.C_drewN ?_ _) | (with_reducible refine Kd.C_drew ?_)))
                (case aB => exact (by repeat (first | (with_reducible first | exact HB.out | apply below_alloc | apply pw_below_drewN | apply below_drew1 | refine below_set ?_ GE199.out | refine below_set ?_ GE200.out) | exact HB.out)))
                (case aF => exact (fun _ _ => trivial))
                (case aO => exact (rT_ HO205))
                (case aS => exact (below_size (by repeat (first | (with_reducible first | exact HB.out | apply below_alloc | apply pw_below_drewN | apply below_drew1 | refine below_set ?_ GE199.out | refine below_set ?_ GE200.out) | exact HB.out))))
                (case aL => have := LMc19.out; omega)
                intro v207 w25 ho hb hg hat
                rw [← Ny206.out] at ho
                replace BK199 := Aside0.mk (blk_grown (g := gb199) (o := .cells #[.slice A0_0 l0_0.length c0_0, .slice A0_1 l0_1.length c0_1] 26 (0, 0)) (bT_ BK199) hg (Kd.R_ne HO205.out BK199.out (by decide)))
                replace BK200 := Aside0.mk (blk_grown (g := gb200) (o := .cells #[.slice none 0 0, .slice none 0 0] 26 (0, 0)) (bT_ BK200) hg (Kd.R_ne HO205.out BK200.out (by decide)))
                replace HB := Aside0.mk (hb)
                have HO208 := Aside0.mk (ho)
                clear HO205 ho hb hg hat
                refine hK.out _ _ ⟨(blk_cell BK199.out 0).trans rfl, (blk_cell BK199.out 1).trans rfl⟩ (fun hHeld => ?_)
                clear hK K
                refine nS_ (some 23) ?_
                exact norm_ (by simp only [putAll, Act.put, List.setIfInBounds_toArray, List.set_cons_zero, List.set_cons_succ] <;> rfl) (hJ0_3 (v204, v207) _ ⟨hHeld, (rT_ HO208), (bT_ BK199), (bT_ BK200), (by repeat (first | (with_reducible first | exact HB.out | apply below_alloc | apply pw_below_drewN | apply below_drew1 | refine below_set ?_ GE199.out | refine below_set ?_ GE200.out) | exact HB.out))⟩)
               ·skip
                refine Kd.R_lit_step (Kd.int .i64) _ 2 ?hg (N := 24) ?hd (xs := ([] : List Int)) (inner := []) (ok := fun _ => True) (okp := fun _ => True) ?hr ?hp (fun _ hk => hk) trivial (Below.refl _ _) (Nat.le_refl _) (by simp) ?_; (case hd => rfl); (case hg => rfl); (case hr => first | (go_simp; done) | (go_simp; rfl)); (case hp => exact (Reps.none _ _))
                intro v210 w25 ho26 hb hg_ hnew_
                clear hg_ hnew_
                (first | rw [← Ny209.out] at ho26 | (simp only [Int.reduceToNat] at ho26; rw [← Ny209.out] at ho26))
                have HO211 := rL_ (rN_ ho26 HO205) HB
                replace HO205 := rE_ HO205 ho26 hb; replace BK199 := bB_ BK199 hb; replace BK200 := bB_ BK200 hb; replace HB := bS_ HB hb; clear hb ho26
                refine hK.out _ _ ⟨(blk_cell BK199.out 0).trans rfl, (blk_cell BK199.out 1).trans rfl⟩ (fun hHeld => ?_)
                clear hK K
                refine nS_ (some 24) ?_
                exact norm_ (by simp only [putAll, Act.put, List.setIfInBounds_toArray, List.set_cons_zero, List.set_cons_succ] <;> rfl) (hJ0_4 (v204, v210) _ ⟨hHeld, (rM_ HO205), (rM_ HO211), (bT_ BK199), (bT_ BK200), (by repeat (first | (with_reducible first | exact HB.out | apply below_alloc | apply pw_below_drewN | apply below_drew1 | refine below_set ?_ GE199.out | refine below_set ?_ GE200.out) | exact HB.out))⟩)
               ·skip
                refine box_step ?hg (N := 8) ?hd (cs := #[.slice none 0 0, .slice none 0 0]) (t := 26) ?hr ?_; (case hd => rfl); (case hg => rfl); (case hr => first | (go_simp; done) | (go_simp; rfl))
                intro gb215 hg w25 hbox hb
                replace HO205 := rB_ HO205 hb
                have BK215 := Aside0.mk (hbox)
                have GW215 := gE_ HB hg; have GE215 := gE_ HB hg; replace HB := bS_ HB hb; have NB199_215 := nL_ BK199 hg; have NB215_199 := nG_ BK199 hg; replace BK199 := bB_ BK199 hb; have NB200_215 := nL_ BK200 hg; have NB215_200 := nG_ BK200 hg; replace BK200 := bB_ BK200 hb; clear hb hbox hg
                refine hK.out _ _ ⟨(blk_cell BK199.out 0).trans rfl, (blk_cell BK199.out 1).trans rfl⟩ (fun hHeld => ?_)
                clear hK K
                refine nS_ (some 8) ?_
                exact norm_ (by simp only [putAll, Act.put, List.setIfInBounds_toArray, List.set_cons_zero, List.set_cons_succ] <;> rfl) (hJ0_9 (v204, gb215) _ ⟨hHeld, (rT_ HO205), (bT_ BK199), (bT_ BK200), (bT_ BK215), GW215.out, GE215.out, NB199_215.out, NB215_199.out, NB200_215.out, NB215_200.out, (by repeat (first | (with_reducible first | exact HB.out | apply below_alloc | apply pw_below_drewN | apply below_drew1 | refine below_set ?_ GE199.out | refine below_set ?_ GE200.out | refine below_set ?_ GE215.out) | exact HB.out))⟩)
             ·skip
              rintro ⟨v210, gb215⟩ w25 ⟨hS_, h0_, h1_, h2_, h3_, h4_, h5_, h6_, h7_, h8_, h9_, h10_⟩
              try dsimp only at h0_ h1_ h2_ h3_ h4_ h5_ h6_ h7_ h8_ h9_ h10_
              have HO211 := Aside0.mk h0_; replace BK199 := Aside0.mk h1_; replace BK200 := Aside0.mk h2_; have BK215 := Aside0.mk h3_; have GW215 := Aside0.mk h4_; have GE215 := Aside0.mk h5_; have NB199_215 := Aside0.mk h6_; have NB215_199 := Aside0.mk h7_; have NB200_215 := Aside0.mk h8_; have NB215_200 := Aside0.mk h9_; replace HB := Aside0.mk h10_; clear h0_ h1_ h2_ h3_ h4_ h5_ h6_ h7_ h8_ h9_ h10_
              have hHeld : w25.cell? ⟨gb199, 0, none⟩ = some (.slice A0_0 l0_0.length c0_0) ∧ w25.cell? ⟨gb199, 1, none⟩ = some (.slice A0_1 l0_1.length c0_1) := hS_
              refine norm_ (a' := ?_) ?_ ?_
              rotate_left
              ·simp only [putAll, Act.put, List.setIfInBounds_toArray, List.set_cons_zero, List.set_cons_succ]
               rfl
              refine one_ (i := 0) (N := some 20) #[true, true, true, false, true, true, true, false, false, true, false] rfl rfl (one_of HT_.out (by kernel_rfl)) (by decide) (fun K hK => ?_)
              refine Kd.R_lit_step (Kd.int .i64) _ 2 ?hg (N := 20) ?hd (xs := ([] : List Int)) (inner := []) (ok := fun _ => True) (okp := fun _ => True) ?hr ?hp (fun _ hk => hk) trivial (Below.refl _ _) (Nat.le_refl _) (by simp) ?_; (case hd => rfl); (case hg => rfl); (case hr => first | (go_simp; done) | (go_simp; rfl)); (case hp => exact (Reps.none _ _))
              intro v204 w26 ho27 hb hg_ hnew_
              clear hg_ hnew_
              (first | rw [← Ny203.out] at ho27 | (simp only [Int.reduceToNat] at ho27; rw [← Ny203.out] at ho27))
              have HO205 := rL_ (rN_ ho27 HO211) HB
              replace HO211 := rE_ HO211 ho27 hb; replace BK199 := bB_ BK199 hb; replace BK200 := bB_ BK200 hb; replace BK215 := bB_ BK215 hb; replace HB := bS_ HB hb; clear hb ho27
              refine hK.out _ _ ⟨(blk_cell BK199.out 0).trans rfl, (blk_cell BK199.out 1).trans rfl⟩ (fun hHeld => ?_)
              clear hK K
              refine nS_ (some 20) ?_
              exact norm_ (by simp only [putAll, Act.put, List.setIfInBounds_toArray, List.set_cons_zero, List.set_cons_succ] <;> rfl) (hJ0_4_9 (v204, v210, gb215) _ ⟨hHeld, (rM_ HO205), (rM_ HO211), (bT_ BK199), (bT_ BK200), (bT_ BK215), GW215.out, GE215.out, NB199_215.out, NB215_199.out, NB200_215.out, NB215_200.out, (by repeat (first | (with_reducible first | exact HB.out | apply below_alloc | apply pw_below_drewN | apply below_drew1 | refine below_set ?_ GE199.out | refine below_set ?_ GE200.out | refine below_set ?_ GE215.out) | exact HB.out))⟩)
            ·skip
             rintro ⟨v204, gb215⟩ w25 ⟨hS_, h0_, h1_, h2_, h3_, h4_, h5_, h6_, h7_, h8_, h9_, h10_⟩
             try dsimp only at h0_ h1_ h2_ h3_ h4_ h5_ h6_ h7_ h8_ h9_ h10_
             have HO205 := Aside0.mk h0_; replace BK199 := Aside0.mk h1_; replace BK200 := Aside0.mk h2_; have BK215 := Aside0.mk h3_; have GW215 := Aside0.mk h4_; have GE215 := Aside0.mk h5_; have NB199_215 := Aside0.mk h6_; have NB215_199 := Aside0.mk h7_; have NB200_215 := Aside0.mk h8_; have NB215_200 := Aside0.mk h9_; replace HB := Aside0.mk h10_; clear h0_ h1_ h2_ h3_ h4_ h5_ h6_ h7_ h8_ h9_ h10_
             have hHeld : w25.cell? ⟨gb199, 0, none⟩ = some (.slice A0_0 l0_0.length c0_0) ∧ w25.cell? ⟨gb199, 1, none⟩ = some (.slice A0_1 l0_1.length c0_1) := hS_
             refine norm_ (a' := ?_) ?_ ?_
             rotate_left
             ·simp only [putAll, Act.put, List.setIfInBounds_toArray, List.set_cons_zero, List.set_cons_succ]
              rfl
             refine two_ (i := 3) (j := 4) (Ni := some 23) (Nj := some 24) #[true, true, true, true, false, true, true, false, false, true, false] #[true, true, true, false, true, true, true, false, false, true, false] rfl rfl rfl rfl (two_of HT_.out (by kernel_rfl)) (by decide) (by decide) (fun K hK => ?_) (fun K hK => ?_)
             ·skip
              refine Kd.R_append_rows_step (Kd.int .i64) (w0 := w) w.heap.size (by rfl) (.tmp 20) (.tmp 22) 22 2 (.int .i64 0) 8 rfl Try.underlying22 info2 rfl (by decide) (by omega) v204 y203 l0_0 _ _ _ (fun _ => True) (fun _ => False) rfl rfl ?aO ?aR (fun _ _ h => h) (fun _ h => h.elim) ?aF ?aB ?aS ?aL ?_
              (case aR => repeat (first | exact (Kd.C_below HR0_0.out HB.out) | (with_reducible refine Kd.C_alloc ?_ _) | (with_reducible refine Kd.C_drewN ?_ _) | (with_reducible refine Kd.C_drew ?_)))
              (case aB => exact (by repeat (first | (with_reducible first | exact HB.out | apply below_alloc | apply pw_below_drewN | apply below_drew1 | refine below_set ?_ GE199.out | refine below_set ?_ GE200.out | refine below_set ?_ GE215.out) | exact HB.out)))
              (case aF => exact (fun _ _ => trivial))
              (case aO => exact (rT_ HO205))
              (case aS => exact (below_size (by repeat (first | (with_reducible first | exact HB.out | apply below_alloc | apply pw_below_drewN | apply below_drew1 | refine below_set ?_ GE199.out | refine below_set ?_ GE200.out | refine below_set ?_ GE215.out) | exact HB.out))))
              (case aL => have := LMc19.out; omega)
              intro v207 w26 ho hb hg hat
              rw [← Ny206.out] at ho
              replace BK199 := Aside0.mk (blk_grown (g := gb199) (o := .cells #[.slice A0_0 l0_0.length c0_0, .slice A0_1 l0_1.length c0_1] 26 (0, 0)) (bT_ BK199) hg (Kd.R_ne HO205.out BK199.out (by decide)))
              replace BK200 := Aside0.mk (blk_grown (g := gb200) (o := .cells #[.slice none 0 0, .slice none 0 0] 26 (0, 0)) (bT_ BK200) hg (Kd.R_ne HO205.out BK200.out (by decide)))
              replace BK215 := Aside0.mk (blk_grown (g := gb215) (o := .cells #[.slice none 0 0, .slice none 0 0] 26 (0, 0)) (bT_ BK215) hg (Kd.R_ne HO205.out BK215.out (by decide)))
              replace HB := Aside0.mk (hb)
              have HO208 := Aside0.mk (ho)
              clear HO205 ho hb hg hat
              refine hK.out _ _ ⟨(blk_cell BK199.out 0).trans rfl, (blk_cell BK199.out 1).trans rfl⟩ (fun hHeld => ?_)
              clear hK K
              refine nS_ (some 23) ?_
              exact norm_ (by simp only [putAll, Act.put, List.setIfInBounds_toArray, List.set_cons_zero, List.set_cons_succ] <;> rfl) (hJ0_3_9 (v204, v207, gb215) _ ⟨hHeld, (rT_ HO208), (bT_ BK199), (bT_ BK200), (bT_ BK215), GW215.out, GE215.out, NB199_215.out, NB215_199.out, NB200_215.out, NB215_200.out, (by repeat (first | (with_reducible first | exact HB.out | apply below_alloc | apply pw_below_drewN | apply below_drew1 | refine below_set ?_ GE199.out | refine below_set ?_ GE200.out | refine below_set ?_ GE215.out) | exact HB.out))⟩)
             ·skip
              refine Kd.R_lit_step (Kd.int .i64) _ 2 ?hg (N := 24) ?hd (xs := ([] : List Int)) (inner := []) (ok := fun _ => True) (okp := fun _ => True) ?hr ?hp (fun _ hk => hk) trivial (Below.refl _ _) (Nat.le_refl _) (by simp) ?_; (case hd => rfl); (case hg => rfl); (case hr => first | (go_simp; done) | (go_simp; rfl)); (case hp => exact (Reps.none _ _))
              intro v210 w26 ho27 hb hg_ hnew_
              clear hg_ hnew_
              (first | rw [← Ny209.out] at ho27 | (simp only [Int.reduceToNat] at ho27; rw [← Ny209.out] at ho27))
              have HO211 := rL_ (rN_ ho27 HO205) HB
              replace HO205 := rE_ HO205 ho27 hb; replace BK199 := bB_ BK199 hb; replace BK200 := bB_ BK200 hb; replace BK215 := bB_ BK215 hb; replace HB := bS_ HB hb; clear hb ho27
              refine hK.out _ _ ⟨(blk_cell BK199.out 0).trans rfl, (blk_cell BK199.out 1).trans rfl⟩ (fun hHeld => ?_)
              clear hK K
              refine nS_ (some 24) ?_
              exact norm_ (by simp only [putAll, Act.put, List.setIfInBounds_toArray, List.set_cons_zero, List.set_cons_succ] <;> rfl) (hJ0_4_9 (v204, v210, gb215) _ ⟨hHeld, (rM_ HO205), (rM_ HO211), (bT_ BK199), (bT_ BK200), (bT_ BK215), GW215.out, GE215.out, NB199_215.out, NB215_199.out, NB200_215.out, NB215_200.out, (by repeat (first | (with_reducible first | exact HB.out | apply below_alloc | apply pw_below_drewN | apply below_drew1 | refine below_set ?_ GE199.out | refine below_set ?_ GE200.out | refine below_set ?_ GE215.out) | exact HB.out))⟩)
           ·skip
            rintro ⟨v204, v210⟩ w26 ⟨hS_, h0_, h1_, h2_, h3_, h4_⟩
            try dsimp only at h0_ h1_ h2_ h3_ h4_
            have HO205 := Aside0.mk h0_; have HO211 := Aside0.mk h1_; replace BK199 := Aside0.mk h2_; replace BK200 := Aside0.mk h3_; replace HB := Aside0.mk h4_; clear h0_ h1_ h2_ h3_ h4_
            have hHeld : w26.cell? ⟨gb199, 0, none⟩ = some (.slice A0_0 l0_0.length c0_0) ∧ w26.cell? ⟨gb199, 1, none⟩ = some (.slice A0_1 l0_1.length c0_1) := hS_
            refine norm_ (a' := ?_) ?_ ?_
            rotate_left
            ·simp only [putAll, Act.put, List.setIfInBounds_toArray, List.set_cons_zero, List.set_cons_succ]
             rfl
            refine two_ (i := 3) (j := 9) (Ni := some 23) (Nj := some 8) #[true, true, true, true, true, true, true, false, false, false, false] #[true, true, true, false, true, true, true, false, false, true, false] rfl rfl rfl rfl (two_of HT_.out (by kernel_rfl)) (by decide) (by decide) (fun K hK => ?_) (fun K hK => ?_)
            ·skip
             refine Kd.R_append_rows_step (Kd.int .i64) (w0 := w) w.heap.size (by rfl) (.tmp 20) (.tmp 22) 22 2 (.int .i64 0) 8 rfl Try.underlying22 info2 rfl (by decide) (by omega) v204 y203 l0_0 _ _ _ (fun k_ => some k_ ≠ (v210 : Value).ownBlock) (fun _ => False) rfl rfl ?aO ?aR (fun _ _ h => h) (fun _ h => h.elim) ?aF ?aB ?aS ?aL ?_
             (case aR => repeat (first | exact (Kd.C_below HR0_0.out HB.out) | (with_reducible refine Kd.C_alloc ?_ _) | (with_reducible refine Kd.C_drewN ?_ _) | (with_reducible refine Kd.C_drew ?_)))
             (case aB => exact (by repeat (first | (with_reducible first | exact HB.out | apply below_alloc | apply pw_below_drewN | apply below_drew1 | refine below_set ?_ GE199.out | refine below_set ?_ GE200.out) | exact HB.out)))
             (case aF => exact (fun k_ hk => Kd.fresh' (rLt_ HO211) k_ hk))
             (case aO => exact (rT_ HO205))
             (case aS => exact (below_size (by repeat (first | (with_reducible first | exact HB.out | apply below_alloc | apply pw_below_drewN | apply below_drew1 | refine below_set ?_ GE199.out | refine below_set ?_ GE200.out) | exact HB.out))))
             (case aL => have := LMc19.out; omega)
             intro v207 w27 ho hb hg hat
             rw [← Ny206.out] at ho
             replace BK199 := Aside0.mk (blk_grown (g := gb199) (o := .cells #[.slice A0_0 l0_0.length c0_0, .slice A0_1 l0_1.length c0_1] 26 (0, 0)) (bT_ BK199) hg (Kd.R_ne HO205.out BK199.out (by decide)))
             replace BK200 := Aside0.mk (blk_grown (g := gb200) (o := .cells #[.slice none 0 0, .slice none 0 0] 26 (0, 0)) (bT_ BK200) hg (Kd.R_ne HO205.out BK200.out (by decide)))
             replace HO211 := Aside0.mk (Kd.R_after (ok := (fun _ => True)) (rM_ HO211 (fun _ hk => ⟨trivial, hk⟩)) hg hat)
             replace HB := Aside0.mk (hb)
             have HO208 := Aside0.mk (ho)
             clear HO205 ho hb hg hat
             refine hK.out _ _ ⟨(blk_cell BK199.out 0).trans rfl, (blk_cell BK199.out 1).trans rfl⟩ (fun hHeld => ?_)
             clear hK K
             refine nS_ (some 23) ?_
             exact norm_ (by simp only [putAll, Act.put, List.setIfInBounds_toArray, List.set_cons_zero, List.set_cons_succ] <;> rfl) (hJ0_3_4 (v204, v207, v210) _ ⟨hHeld, (rT_ HO208), (rM_ HO211), (bT_ BK199), (bT_ BK200), (by repeat (first | (with_reducible first | exact HB.out | apply below_alloc | apply pw_below_drewN | apply below_drew1 | refine below_set ?_ GE199.out | refine below_set ?_ GE200.out) | exact HB.out))⟩)
            ·skip
             refine box_step ?hg (N := 8) ?hd (cs := #[.slice none 0 0, .slice none 0 0]) (t := 26) ?hr ?_; (case hd => rfl); (case hg => rfl); (case hr => first | (go_simp; done) | (go_simp; rfl))
             intro gb215 hg w27 hbox hb
             replace HO205 := rB_ HO205 hb; replace HO211 := rB_ HO211 hb
             have BK215 := Aside0.mk (hbox)
             have GW215 := gE_ HB hg; have GE215 := gE_ HB hg; replace HB := bS_ HB hb; have NB199_215 := nL_ BK199 hg; have NB215_199 := nG_ BK199 hg; replace BK199 := bB_ BK199 hb; have NB200_215 := nL_ BK200 hg; have NB215_200 := nG_ BK200 hg; replace BK200 := bB_ BK200 hb; clear hb hbox hg
             refine hK.out _ _ ⟨(blk_cell BK199.out 0).trans rfl, (blk_cell BK199.out 1).trans rfl⟩ (fun hHeld => ?_)
             clear hK K
             refine nS_ (some 8) ?_
             exact norm_ (by simp only [putAll, Act.put, List.setIfInBounds_toArray, List.set_cons_zero, List.set_cons_succ] <;> rfl) (hJ0_4_9 (v204, v210, gb215) _ ⟨hHeld, (rT_ HO205), (rT_ HO211), (bT_ BK199), (bT_ BK200), (bT_ BK215), GW215.out, GE215.out, NB199_215.out, NB215_199.out, NB200_215.out, NB215_200.out, (by repeat (first | (with_reducible first | exact HB.out | apply below_alloc | apply pw_below_drewN | apply below_drew1 | refine below_set ?_ GE199.out | refine below_set ?_ GE200.out | refine below_set ?_ GE215.out) | exact HB.out))⟩)
          ·skip
           rintro ⟨v204, v207⟩ w25 ⟨hS_, h0_, h1_, h2_, h3_⟩
           try dsimp only at h0_ h1_ h2_ h3_
           have HO208 := Aside0.mk h0_; replace BK199 := Aside0.mk h1_; replace BK200 := Aside0.mk h2_; replace HB := Aside0.mk h3_; clear h0_ h1_ h2_ h3_
           have hHeld : w25.cell? ⟨gb199, 0, none⟩ = some (.slice A0_0 l0_0.length c0_0) ∧ w25.cell? ⟨gb199, 1, none⟩ = some (.slice A0_1 l0_1.length c0_1) := hS_
           refine norm_ (a' := ?_) ?_ ?_
           rotate_left
           ·simp only [putAll, Act.put, List.setIfInBounds_toArray, List.set_cons_zero, List.set_cons_succ]
            rfl
           refine two_ (i := 4) (j := 9) (Ni := some 24) (Nj := some 8) #[true, true, true, true, true, true, true, false, false, false, false] #[true, true, true, true, false, true, true, false, false, true, false] rfl rfl rfl rfl (two_of HT_.out (by kernel_rfl)) (by decide) (by decide) (fun K hK => ?_) (fun K hK => ?_)
           ·skip
            refine Kd.R_lit_step (Kd.int .i64) _ 2 ?hg (N := 24) ?hd (xs := ([] : List Int)) (inner := []) (ok := fun _ => True) (okp := fun _ => True) ?hr ?hp (fun _ hk => hk) trivial (Below.refl _ _) (Nat.le_refl _) (by simp) ?_; (case hd => rfl); (case hg => rfl); (case hr => first | (go_simp; done) | (go_simp; rfl)); (case hp => exact (Reps.none _ _))
            intro v210 w26 ho27 hb hg_ hnew_
            clear hg_ hnew_
            (first | rw [← Ny209.out] at ho27 | (simp only [Int.reduceToNat] at ho27; rw [← Ny209.out] at ho27))
            have HO211 := rL_ (rN_ ho27 HO208) HB
            replace HO208 := rE_ HO208 ho27 hb; replace BK199 := bB_ BK199 hb; replace BK200 := bB_ BK200 hb; replace HB := bS_ HB hb; clear hb ho27
            refine hK.out _ _ ⟨(blk_cell BK199.out 0).trans rfl, (blk_cell BK199.out 1).trans rfl⟩ (fun hHeld => ?_)
            clear hK K
            refine nS_ (some 24) ?_
            exact norm_ (by simp only [putAll, Act.put, List.setIfInBounds_toArray, List.set_cons_zero, List.set_cons_succ] <;> rfl) (hJ0_3_4 (v204, v207, v210) _ ⟨hHeld, (rM_ HO208), (rM_ HO211), (bT_ BK199), (bT_ BK200), (by repeat (first | (with_reducible first | exact HB.out | apply below_alloc | apply pw_below_drewN | apply below_drew1 | refine below_set ?_ GE199.out | refine below_set ?_ GE200.out) | exact HB.out))⟩)
           ·skip
            refine box_step ?hg (N := 8) ?hd (cs := #[.slice none 0 0, .slice none 0 0]) (t := 26) ?hr ?_; (case hd => rfl); (case hg => rfl); (case hr => first | (go_simp; done) | (go_simp; rfl))
            intro gb215 hg w26 hbox hb
            replace HO208 := rB_ HO208 hb
            have BK215 := Aside0.mk (hbox)
            have GW215 := gE_ HB hg; have GE215 := gE_ HB hg; replace HB := bS_ HB hb; have NB199_215 := nL_ BK199 hg; have NB215_199 := nG_ BK199 hg; replace BK199 := bB_ BK199 hb; have NB200_215 := nL_ BK200 hg; have NB215_200 := nG_ BK200 hg; replace BK200 := bB_ BK200 hb; clear hb hbox hg
            refine hK.out _ _ ⟨(blk_cell BK199.out 0).trans rfl, (blk_cell BK199.out 1).trans rfl⟩ (fun hHeld => ?_)
            clear hK K
            refine nS_ (some 8) ?_
            exact norm_ (by simp only [putAll, Act.put, List.setIfInBounds_toArray, List.set_cons_zero, List.set_cons_succ] <;> rfl) (hJ0_3_9 (v204, v207, gb215) _ ⟨hHeld, (rT_ HO208), (bT_ BK199), (bT_ BK200), (bT_ BK215), GW215.out, GE215.out, NB199_215.out, NB215_199.out, NB200_215.out, NB215_200.out, (by repeat (first | (with_reducible first | exact HB.out | apply below_alloc | apply pw_below_drewN | apply below_drew1 | refine below_set ?_ GE199.out | refine below_set ?_ GE200.out | refine below_set ?_ GE215.out) | exact HB.out))⟩)
         ·skip
          rintro ⟨v204, v210, gb215⟩ w27 ⟨hS_, h0_, h1_, h2_, h3_, h4_, h5_, h6_, h7_, h8_, h9_, h10_, h11_⟩
          try dsimp only at h0_ h1_ h2_ h3_ h4_ h5_ h6_ h7_ h8_ h9_ h10_ h11_
          have HO205 := Aside0.mk h0_; have HO211 := Aside0.mk h1_; replace BK199 := Aside0.mk h2_; replace BK200 := Aside0.mk h3_; have BK215 := Aside0.mk h4_; have GW215 := Aside0.mk h5_; have GE215 := Aside0.mk h6_; have NB199_215 := Aside0.mk h7_; have NB215_199 := Aside0.mk h8_; have NB200_215 := Aside0.mk h9_; have NB215_200 := Aside0.mk h10_; replace HB := Aside0.mk h11_; clear h0_ h1_ h2_ h3_ h4_ h5_ h6_ h7_ h8_ h9_ h10_ h11_
          have hHeld : w27.cell? ⟨gb199, 0, none⟩ = some (.slice A0_0 l0_0.length c0_0) ∧ w27.cell? ⟨gb199, 1, none⟩ = some (.slice A0_1 l0_1.length c0_1) := hS_
          refine norm_ (a' := ?_) ?_ ?_
          rotate_left
          ·simp only [putAll, Act.put, List.setIfInBounds_toArray, List.set_cons_zero, List.set_cons_succ]
           rfl
          refine one_ (i := 3) (N := some 23) #[true, true, true, true, true, true, true, false, false, true, false] rfl rfl (one_of HT_.out (by kernel_rfl)) (by decide) (fun K hK => ?_)
          refine Kd.R_append_rows_step (Kd.int .i64) (w0 := w) w.heap.size (by rfl) (.tmp 20) (.tmp 22) 22 2 (.int .i64 0) 8 rfl Try.underlying22 info2 rfl (by decide) (by omega) v204 y203 l0_0 _ _ _ (fun k_ => some k_ ≠ (v210 : Value).ownBlock) (fun _ => False) rfl rfl ?aO ?aR (fun _ _ h => h) (fun _ h => h.elim) ?aF ?aB ?aS ?aL ?_
          (case aR => repeat (first | exact (Kd.C_below HR0_0.out HB.out) | (with_reducible refine Kd.C_alloc ?_ _) | (with_reducible refine Kd.C_drewN ?_ _) | (with_reducible refine Kd.C_drew ?_)))
          (case aB => exact (by repeat (first | (with_reducible first | exact HB.out | apply below_alloc | apply pw_below_drewN | apply below_drew1 | refine below_set ?_ GE199.out | refine below_set ?_ GE200.out | refine below_set ?_ GE215.out) | exact HB.out)))
          (case aF => exact (fun k_ hk => Kd.fresh' (rLt_ HO211) k_ hk))
          (case aO => exact (rT_ HO205))
          (case aS => exact (below_size (by repeat (first | (with_reducible first | exact HB.out | apply below_alloc | apply pw_below_drewN | apply below_drew1 | refine below_set ?_ GE199.out | refine below_set ?_ GE200.out | refine below_set ?_ GE215.out) | exact HB.out))))
          (case aL => have := LMc19.out; omega)
          intro v207 w28 ho hb hg hat
          rw [← Ny206.out] at ho
          replace BK199 := Aside0.mk (blk_grown (g := gb199) (o := .cells #[.slice A0_0 l0_0.length c0_0, .slice A0_1 l0_1.length c0_1] 26 (0, 0)) (bT_ BK199) hg (Kd.R_ne HO205.out BK199.out (by decide)))
          replace BK200 := Aside0.mk (blk_grown (g := gb200) (o := .cells #[.slice none 0 0, .slice none 0 0] 26 (0, 0)) (bT_ BK200) hg (Kd.R_ne HO205.out BK200.out (by decide)))
          replace HO211 := Aside0.mk (Kd.R_after (ok := (fun _ => True)) (rM_ HO211 (fun _ hk => ⟨trivial, hk⟩)) hg hat)
          replace BK215 := Aside0.mk (blk_grown (g := gb215) (o := .cells #[.slice none 0 0, .slice none 0 0] 26 (0, 0)) (bT_ BK215) hg (Kd.R_ne HO205.out BK215.out (by decide)))
          replace HB := Aside0.mk (hb)
          have HO208 := Aside0.mk (ho)
          clear HO205 ho hb hg hat
          refine hK.out _ _ ⟨(blk_cell BK199.out 0).trans rfl, (blk_cell BK199.out 1).trans rfl⟩ (fun hHeld => ?_)
          clear hK K
          refine nS_ (some 23) ?_
          exact norm_ (by simp only [putAll, Act.put, List.setIfInBounds_toArray, List.set_cons_zero, List.set_cons_succ] <;> rfl) (hJ0_3_4_9 (v204, v207, v210, gb215) _ ⟨hHeld, (rT_ HO208), (rM_ HO211), (bT_ BK199), (bT_ BK200), (bT_ BK215), GW215.out, GE215.out, NB199_215.out, NB215_199.out, NB200_215.out, NB215_200.out, (by repeat (first | (with_reducible first | exact HB.out | apply below_alloc | apply pw_below_drewN | apply below_drew1 | refine below_set ?_ GE199.out | refine below_set ?_ GE200.out | refine below_set ?_ GE215.out) | exact HB.out))⟩)
        ·skip
         rintro ⟨v204, v207, gb215⟩ w26 ⟨hS_, h0_, h1_, h2_, h3_, h4_, h5_, h6_, h7_, h8_, h9_, h10_⟩
         try dsimp only at h0_ h1_ h2_ h3_ h4_ h5_ h6_ h7_ h8_ h9_ h10_
         have HO208 := Aside0.mk h0_; replace BK199 := Aside0.mk h1_; replace BK200 := Aside0.mk h2_; have BK215 := Aside0.mk h3_; have GW215 := Aside0.mk h4_; have GE215 := Aside0.mk h5_; have NB199_215 := Aside0.mk h6_; have NB215_199 := Aside0.mk h7_; have NB200_215 := Aside0.mk h8_; have NB215_200 := Aside0.mk h9_; replace HB := Aside0.mk h10_; clear h0_ h1_ h2_ h3_ h4_ h5_ h6_ h7_ h8_ h9_ h10_
         have hHeld : w26.cell? ⟨gb199, 0, none⟩ = some (.slice A0_0 l0_0.length c0_0) ∧ w26.cell? ⟨gb199, 1, none⟩ = some (.slice A0_1 l0_1.length c0_1) := hS_
         refine norm_ (a' := ?_) ?_ ?_
         rotate_left
         ·simp only [putAll, Act.put, List.setIfInBounds_toArray, List.set_cons_zero, List.set_cons_succ]
          rfl
         refine one_ (i := 4) (N := some 24) #[true, true, true, true, true, true, true, false, false, true, false] rfl rfl (one_of HT_.out (by kernel_rfl)) (by decide) (fun K hK => ?_)
         refine Kd.R_lit_step (Kd.int .i64) _ 2 ?hg (N := 24) ?hd (xs := ([] : List Int)) (inner := []) (ok := fun _ => True) (okp := fun _ => True) ?hr ?hp (fun _ hk => hk) trivial (Below.refl _ _) (Nat.le_refl _) (by simp) ?_; (case hd => rfl); (case hg => rfl); (case hr => first | (go_simp; done) | (go_simp; rfl)); (case hp => exact (Reps.none _ _))
         intro v210 w27 ho28 hb hg_ hnew_
         clear hg_ hnew_
         (first | rw [← Ny209.out] at ho28 | (simp only [Int.reduceToNat] at ho28; rw [← Ny209.out] at ho28))
         have HO211 := rL_ (rN_ ho28 HO208) HB
         replace HO208 := rE_ HO208 ho28 hb; replace BK199 := bB_ BK199 hb; replace BK200 := bB_ BK200 hb; replace BK215 := bB_ BK215 hb; replace HB := bS_ HB hb; clear hb ho28
         refine hK.out _ _ ⟨(blk_cell BK199.out 0).trans rfl, (blk_cell BK199.out 1).trans rfl⟩ (fun hHeld => ?_)
         clear hK K
         refine nS_ (some 24) ?_
         exact norm_ (by simp only [putAll, Act.put, List.setIfInBounds_toArray, List.set_cons_zero, List.set_cons_succ] <;> rfl) (hJ0_3_4_9 (v204, v207, v210, gb215) _ ⟨hHeld, (rM_ HO208), (rM_ HO211), (bT_ BK199), (bT_ BK200), (bT_ BK215), GW215.out, GE215.out, NB199_215.out, NB215_199.out, NB200_215.out, NB215_200.out, (by repeat (first | (with_reducible first | exact HB.out | apply below_alloc | apply pw_below_drewN | apply below_drew1 | refine below_set ?_ GE199.out | refine below_set ?_ GE200.out | refine below_set ?_ GE215.out) | exact HB.out))⟩)
       ·skip
        rintro ⟨v204, v207, v210⟩ w27 ⟨hS_, h0_, h1_, h2_, h3_, h4_⟩
        try dsimp only at h0_ h1_ h2_ h3_ h4_
        have HO208 := Aside0.mk h0_; have HO211 := Aside0.mk h1_; replace BK199 := Aside0.mk h2_; replace BK200 := Aside0.mk h3_; replace HB := Aside0.mk h4_; clear h0_ h1_ h2_ h3_ h4_
        have hHeld : w27.cell? ⟨gb199, 0, none⟩ = some (.slice A0_0 l0_0.length c0_0) ∧ w27.cell? ⟨gb199, 1, none⟩ = some (.slice A0_1 l0_1.length c0_1) := hS_
        refine norm_ (a' := ?_) ?_ ?_
        rotate_left
        ·simp only [putAll, Act.put, List.setIfInBounds_toArray, List.set_cons_zero, List.set_cons_succ]
         rfl
        refine two_ (i := 7) (j := 9) (Ni := some 27) (Nj := some 8) #[true, true, true, true, true, true, true, true, false, false, false] #[true, true, true, true, true, true, true, false, false, true, false] rfl rfl rfl rfl (two_of HT_.out (by kernel_rfl)) (by decide) (by decide) (fun K hK => ?_) (fun K hK => ?_)
        ·skip
         refine Kd.R_append_rows_step (Kd.int .i64) (w0 := w) w.heap.size (by rfl) (.tmp 24) (.tmp 26) 22 2 (.int .i64 0) 8 rfl Try.underlying22 info2 rfl (by decide) (by omega) v210 y209 l0_1 _ _ _ (fun k_ => some k_ ≠ (v207 : Value).ownBlock) (fun _ => False) rfl rfl ?aO ?aR (fun _ _ h => h) (fun _ h => h.elim) ?aF ?aB ?aS ?aL ?_
         (case aR => repeat (first | exact (Kd.C_below HR0_1.out HB.out) | (with_reducible refine Kd.C_alloc ?_ _) | (with_reducible refine Kd.C_drewN ?_ _) | (with_reducible refine Kd.C_drew ?_)))
         (case aB => exact (by repeat (first | (with_reducible first | exact HB.out | apply below_alloc | apply pw_below_drewN | apply below_drew1 | refine below_set ?_ GE199.out | refine below_set ?_ GE200.out) | exact HB.out)))
         (case aF => exact (fun k_ hk => Kd.fresh' (rLt_ HO208) k_ hk))
         (case aO => exact (rT_ HO211))
         (case aS => exact (below_size (by repeat (first | (with_reducible first | exact HB.out | apply below_alloc | apply pw_below_drewN | apply below_drew1 | refine below_set ?_ GE199.out | refine below_set ?_ GE200.out) | exact HB.out))))
         (case aL => have := LMc20.out; omega)
         intro v213 w28 ho hb hg hat
         rw [← Ny212.out] at ho
         replace BK199 := Aside0.mk (blk_grown (g := gb199) (o := .cells #[.slice A0_0 l0_0.length c0_0, .slice A0_1 l0_1.length c0_1] 26 (0, 0)) (bT_ BK199) hg (Kd.R_ne HO211.out BK199.out (by decide)))
         replace BK200 := Aside0.mk (blk_grown (g := gb200) (o := .cells #[.slice none 0 0, .slice none 0 0] 26 (0, 0)) (bT_ BK200) hg (Kd.R_ne HO211.out BK200.out (by decide)))
         replace HO208 := Aside0.mk (Kd.R_after (ok := (fun _ => True)) (rM_ HO208 (fun _ hk => ⟨trivial, hk⟩)) hg hat)
         replace HB := Aside0.mk (hb)
         have HO214 := Aside0.mk (ho)
         clear HO211 ho hb hg hat
         obtain ⟨Ao29, co29, eo29⟩ := Kd.R_slice HO214.out
         (first | subst eo29 | (injection eo29 with f1_ f2_ f3_; have f4_ := f1_.symm; have f5_ := f3_.symm; clear f1_ f2_ f3_; subst f4_; subst f5_))
         obtain ⟨Ao30, co30, eo30⟩ := Kd.R_slice HO208.out
         (first | subst eo30 | (injection eo30 with f1_ f2_ f3_; have f4_ := f1_.symm; have f5_ := f3_.symm; clear f1_ f2_ f3_; subst f4_; subst f5_))
         refine hK.out _ _ ⟨(blk_cell BK199.out 0).trans rfl, (blk_cell BK199.out 1).trans rfl⟩ (fun hHeld => ?_)
         clear hK K
         refine nS_ (some 27) ?_
         refine pT_ 8 (some 28) #[true, true, true, true, true, true, true, true, true, false, false] HT_ ?_
         exact norm_ (by simp only [putAll, Act.put, List.setIfInBounds_toArray, List.set_cons_zero, List.set_cons_succ] <;> rfl) (hJ0_3_4_7 (v204, .slice Ao30 y206.length co30, v210, .slice Ao29 y212.length co29) _ ⟨hHeld, (rM_ HO208), (rT_ HO214), (bT_ BK199), (bT_ BK200), (by repeat (first | (with_reducible first | exact HB.out | apply below_alloc | apply pw_below_drewN | apply below_drew1 | refine below_set ?_ GE199.out | refine below_set ?_ GE200.out) | exact HB.out))⟩)
        ·skip
         refine box_step ?hg (N := 8) ?hd (cs := #[.slice none 0 0, .slice none 0 0]) (t := 26) ?hr ?_; (case hd => rfl); (case hg => rfl); (case hr => first | (go_simp; done) | (go_simp; rfl))
         intro gb215 hg w28 hbox hb
         replace HO208 := rB_ HO208 hb; replace HO211 := rB_ HO211 hb
         have BK215 := Aside0.mk (hbox)
         have GW215 := gE_ HB hg; have GE215 := gE_ HB hg; replace HB := bS_ HB hb; have NB199_215 := nL_ BK199 hg; have NB215_199 := nG_ BK199 hg; replace BK199 := bB_ BK199 hb; have NB200_215 := nL_ BK200 hg; have NB215_200 := nG_ BK200 hg; replace BK200 := bB_ BK200 hb; clear hb hbox hg
         refine hK.out _ _ ⟨(blk_cell BK199.out 0).trans rfl, (blk_cell BK199.out 1).trans rfl⟩ (fun hHeld => ?_)
         clear hK K
         refine nS_ (some 8) ?_
         exact norm_ (by simp only [putAll, Act.put, List.setIfInBounds_toArray, List.set_cons_zero, List.set_cons_succ] <;> rfl) (hJ0_3_4_9 (v204, v207, v210, gb215) _ ⟨hHeld, (rT_ HO208), (rT_ HO211), (bT_ BK199), (bT_ BK200), (bT_ BK215), GW215.out, GE215.out, NB199_215.out, NB215_199.out, NB200_215.out, NB215_200.out, (by repeat (first | (with_reducible first | exact HB.out | apply below_alloc | apply pw_below_drewN | apply below_drew1 | refine below_set ?_ GE199.out | refine below_set ?_ GE200.out | refine below_set ?_ GE215.out) | exact HB.out))⟩)
      ·skip
       rintro ⟨v204, v207, v210, gb215⟩ w28 ⟨hS_, h0_, h1_, h2_, h3_, h4_, h5_, h6_, h7_, h8_, h9_, h10_, h11_⟩
       try dsimp only at h0_ h1_ h2_ h3_ h4_ h5_ h6_ h7_ h8_ h9_ h10_ h11_
       have HO208 := Aside0.mk h0_; have HO211 := Aside0.mk h1_; replace BK199 := Aside0.mk h2_; replace BK200 := Aside0.mk h3_; have BK215 := Aside0.mk h4_; have GW215 := Aside0.mk h5_; have GE215 := Aside0.mk h6_; have NB199_215 := Aside0.mk h7_; have NB215_199 := Aside0.mk h8_; have NB200_215 := Aside0.mk h9_; have NB215_200 := Aside0.mk h10_; replace HB := Aside0.mk h11_; clear h0_ h1_ h2_ h3_ h4_ h5_ h6_ h7_ h8_ h9_ h10_ h11_
       have hHeld : w28.cell? ⟨gb199, 0, none⟩ = some (.slice A0_0 l0_0.length c0_0) ∧ w28.cell? ⟨gb199, 1, none⟩ = some (.slice A0_1 l0_1.length c0_1) := hS_
       refine norm_ (a' := ?_) ?_ ?_
       rotate_left
       ·simp only [putAll, Act.put, List.setIfInBounds_toArray, List.set_cons_zero, List.set_cons_succ]
        rfl
       refine one_ (i := 7) (N := some 27) #[true, true, true, true, true, true, true, true, false, true, false] rfl rfl (one_of HT_.out (by kernel_rfl)) (by decide) (fun K hK => ?_)
       refine Kd.R_append_rows_step (Kd.int .i64) (w0 := w) w.heap.size (by rfl) (.tmp 24) (.tmp 26) 22 2 (.int .i64 0) 8 rfl Try.underlying22 info2 rfl (by decide) (by omega) v210 y209 l0_1 _ _ _ (fun k_ => some k_ ≠ (v207 : Value).ownBlock) (fun _ => False) rfl rfl ?aO ?aR (fun _ _ h => h) (fun _ h => h.elim) ?aF ?aB ?aS ?aL ?_
       (case aR => repeat (first | exact (Kd.C_below HR0_1.out HB.out) | (with_reducible refine Kd.C_alloc ?_ _) | (with_reducible refine Kd.C_drewN ?_ _) | (with_reducible refine Kd.C_drew ?_)))
       (case aB => exact (by repeat (first | (with_reducible first | exact HB.out | apply below_alloc | apply pw_below_drewN | apply below_drew1 | refine below_set ?_ GE199.out | refine below_set ?_ GE200.out | refine below_set ?_ GE215.out) | exact HB.out)))
       (case aF => exact (fun k_ hk => Kd.fresh' (rLt_ HO208) k_ hk))
       (case aO => exact (rT_ HO211))
       (case aS => exact (below_size (by repeat (first | (with_reducible first | exact HB.out | apply below_alloc | apply pw_below_drewN | apply below_drew1 | refine below_set ?_ GE199.out | refine below_set ?_ GE200.out | refine below_set ?_ GE215.out) | exact HB.out))))
       (case aL => have := LMc20.out; omega)
       intro v213 w29 ho hb hg hat
       rw [← Ny212.out] at ho
       replace BK199 := Aside0.mk (blk_grown (g := gb199) (o := .cells #[.slice A0_0 l0_0.length c0_0, .slice A0_1 l0_1.length c0_1] 26 (0, 0)) (bT_ BK199) hg (Kd.R_ne HO211.out BK199.out (by decide)))
       replace BK200 := Aside0.mk (blk_grown (g := gb200) (o := .cells #[.slice none 0 0, .slice none 0 0] 26 (0, 0)) (bT_ BK200) hg (Kd.R_ne HO211.out BK200.out (by decide)))
       replace HO208 := Aside0.mk (Kd.R_after (ok := (fun _ => True)) (rM_ HO208 (fun _ hk => ⟨trivial, hk⟩)) hg hat)
       replace BK215 := Aside0.mk (blk_grown (g := gb215) (o := .cells #[.slice none 0 0, .slice none 0 0] 26 (0, 0)) (bT_ BK215) hg (Kd.R_ne HO211.out BK215.out (by decide)))
       replace HB := Aside0.mk (hb)
       have HO214 := Aside0.mk (ho)
       clear HO211 ho hb hg hat
       obtain ⟨Ao30, co30, eo30⟩ := Kd.R_slice HO214.out
       (first | subst eo30 | (injection eo30 with f1_ f2_ f3_; have f4_ := f1_.symm; have f5_ := f3_.symm; clear f1_ f2_ f3_; subst f4_; subst f5_))
       obtain ⟨Ao31, co31, eo31⟩ := Kd.R_slice HO208.out
       (first | subst eo31 | (injection eo31 with f1_ f2_ f3_; have f4_ := f1_.symm; have f5_ := f3_.symm; clear f1_ f2_ f3_; subst f4_; subst f5_))
       refine hK.out _ _ ⟨(blk_cell BK199.out 0).trans rfl, (blk_cell BK199.out 1).trans rfl⟩ (fun hHeld => ?_)
       clear hK K
       refine nS_ (some 27) ?_
       refine pT_ 8 (some 28) #[true, true, true, true, true, true, true, true, true, true, false] HT_ ?_
       exact norm_ (by simp only [putAll, Act.put, List.setIfInBounds_toArray, List.set_cons_zero, List.set_cons_succ] <;> rfl) (hJ0_3_4_7_9 (v204, .slice Ao31 y206.length co31, v210, .slice Ao30 y212.length co30, gb215) _ ⟨hHeld, (rM_ HO208), (rT_ HO214), (bT_ BK199), (bT_ BK200), (bT_ BK215), GW215.out, GE215.out, NB199_215.out, NB215_199.out, NB200_215.out, NB215_200.out, (by repeat (first | (with_reducible first | exact HB.out | apply below_alloc | apply pw_below_drewN | apply below_drew1 | refine below_set ?_ GE199.out | refine below_set ?_ GE200.out | refine below_set ?_ GE215.out) | exact HB.out))⟩)
     ·skip
      rintro ⟨v204, v207, v210, v213⟩ w30 ⟨hS_, h0_, h1_, h2_, h3_, h4_⟩
      try dsimp only at h0_ h1_ h2_ h3_ h4_
      have HO208 := Aside0.mk h0_; have HO214 := Aside0.mk h1_; replace BK199 := Aside0.mk h2_; replace BK200 := Aside0.mk h3_; replace HB := Aside0.mk h4_; clear h0_ h1_ h2_ h3_ h4_
      have hHeld : w30.cell? ⟨gb199, 0, none⟩ = some (.slice A0_0 l0_0.length c0_0) ∧ w30.cell? ⟨gb199, 1, none⟩ = some (.slice A0_1 l0_1.length c0_1) := hS_
      obtain ⟨Ao31, co31, eo31⟩ := Kd.R_slice HO214.out
      (first | subst eo31 | (injection eo31 with f1_ f2_ f3_; have f4_ := f1_.symm; have f5_ := f3_.symm; clear f1_ f2_ f3_; subst f4_; subst f5_))
      obtain ⟨Ao32, co32, eo32⟩ := Kd.R_slice HO208.out
      (first | subst eo32 | (injection eo32 with f1_ f2_ f3_; have f4_ := f1_.symm; have f5_ := f3_.symm; clear f1_ f2_ f3_; subst f4_; subst f5_))
      refine norm_ (a' := ?_) ?_ ?_
      rotate_left
      ·simp only [putAll, Act.put, List.setIfInBounds_toArray, List.set_cons_zero, List.set_cons_succ]
       rfl
      refine one_ (i := 9) (N := some 8) #[true, true, true, true, true, true, true, true, true, true, false] rfl rfl (one_of HT_.out (by kernel_rfl)) (by decide) (fun K hK => ?_)
      refine box_step ?hg (N := 8) ?hd (cs := #[.slice none 0 0, .slice none 0 0]) (t := 26) ?hr ?_; (case hd => rfl); (case hg => rfl); (case hr => first | (go_simp; done) | (go_simp; rfl))
      intro gb215 hg w33 hbox hb
      replace HO208 := rB_ HO208 hb; replace HO214 := rB_ HO214 hb
      have BK215 := Aside0.mk (hbox)
      have GW215 := gE_ HB hg; have GE215 := gE_ HB hg; replace HB := bS_ HB hb; have NB199_215 := nL_ BK199 hg; have NB215_199 := nG_ BK199 hg; replace BK199 := bB_ BK199 hb; have NB200_215 := nL_ BK200 hg; have NB215_200 := nG_ BK200 hg; replace BK200 := bB_ BK200 hb; clear hb hbox hg
      refine hK.out _ _ ⟨(blk_cell BK199.out 0).trans rfl, (blk_cell BK199.out 1).trans rfl⟩ (fun hHeld => ?_)
      clear hK K
      refine nS_ (some 8) ?_
      exact norm_ (by simp only [putAll, Act.put, List.setIfInBounds_toArray, List.set_cons_zero, List.set_cons_succ] <;> rfl) (hJ0_3_4_7_9 (v204, .slice Ao32 y206.length co32, v210, .slice Ao31 y212.length co31, gb215) _ ⟨hHeld, (rT_ HO208), (rT_ HO214), (bT_ BK199), (bT_ BK200), (bT_ BK215), GW215.out, GE215.out, NB199_215.out, NB215_199.out, NB200_215.out, NB215_200.out, (by repeat (first | (with_reducible first | exact HB.out | apply below_alloc | apply pw_below_drewN | apply below_drew1 | refine below_set ?_ GE199.out | refine below_set ?_ GE200.out | refine below_set ?_ GE215.out) | exact HB.out))⟩)
    rintro ⟨v204, v207, v210, v213, gb215⟩ w31 ⟨hS_, h0_, h1_, h2_, h3_, h4_, h5_, h6_, h7_, h8_, h9_, h10_, h11_⟩
    try dsimp only at h0_ h1_ h2_ h3_ h4_ h5_ h6_ h7_ h8_ h9_ h10_ h11_
    have HO208 := Aside0.mk h0_; have HO214 := Aside0.mk h1_; replace BK199 := Aside0.mk h2_; replace BK200 := Aside0.mk h3_; have BK215 := Aside0.mk h4_; have GW215 := Aside0.mk h5_; have GE215 := Aside0.mk h6_; have NB199_215 := Aside0.mk h7_; have NB215_199 := Aside0.mk h8_; have NB200_215 := Aside0.mk h9_; have NB215_200 := Aside0.mk h10_; replace HB := Aside0.mk h11_; clear h0_ h1_ h2_ h3_ h4_ h5_ h6_ h7_ h8_ h9_ h10_ h11_
    have hHeld : w31.cell? ⟨gb199, 0, none⟩ = some (.slice A0_0 l0_0.length c0_0) ∧ w31.cell? ⟨gb199, 1, none⟩ = some (.slice A0_1 l0_1.length c0_1) := hS_
    obtain ⟨Ao32, co32, eo32⟩ := Kd.R_slice HO214.out
    (first | subst eo32 | (injection eo32 with f1_ f2_ f3_; have f4_ := f1_.symm; have f5_ := f3_.symm; clear f1_ f2_ f3_; subst f4_; subst f5_))
    obtain ⟨Ao33, co33, eo33⟩ := Kd.R_slice HO208.out
    (first | subst eo33 | (injection eo33 with f1_ f2_ f3_; have f4_ := f1_.symm; have f5_ := f3_.symm; clear f1_ f2_ f3_; subst f4_; subst f5_))
    refine norm_ (a' := ?_) ?_ ?_
    rotate_left
    ·simp only [putAll, Act.put, List.setIfInBounds_toArray, List.set_cons_zero, List.set_cons_succ]
     rfl
    refine one_ (i := 10) (N := none) #[true, true, true, true, true, true, true, true, true, true, true] rfl rfl (one_of HT_.out (by kernel_rfl)) (by decide) (fun K hK => ?_)
    have hs34 : w31.cell? ⟨gb215, 0, none⟩ = some (.slice none 0 0) := (blk_cell BK215.out 0).trans rfl
    have hfs34 := blk_frozen BK215.out 0; have hns34_0 := NB199_215.out; have hns34_1 := NB200_215.out; have hms34_0 := NB215_199.out; have hms34_1 := NB215_200.out
    have hs35 : w31.cell? ⟨gb215, 1, none⟩ = some (.slice none 0 0) := (blk_cell BK215.out 1).trans rfl
    have hfs35 := blk_frozen BK215.out 1; have hns35_0 := NB199_215.out; have hns35_1 := NB200_215.out; have hms35_0 := NB215_199.out; have hms35_1 := NB215_200.out
    refine skip_ (w1 := ?_) (by rfl) rfl ?_ ?_
    rotate_left
    ·go_simp
     rfl
    refine hK.out _ _ ⟨((cell_far (p := ⟨gb215, _, none⟩) NB199_215.out _).trans (((cell_far (p := ⟨gb215, _, none⟩) NB199_215.out _).trans (hHeld.1)))), ((cell_far (p := ⟨gb215, _, none⟩) NB199_215.out _).trans (((cell_far (p := ⟨gb215, _, none⟩) NB199_215.out _).trans (hHeld.2))))⟩ (fun hHeld => ?_)
    clear hK K
    refine done_ (done_of HT_.out (by kernel_rfl)) ?_
    try go_wp2
    go_loopg [9] kj3 (fun kq v9 w' => ∃ (x9_2 : Int) (x216000_2 : List Int) (x216001_2 : List Int) (u216000 : Value) (u216001 : Value), v9 = .int .i64 x9_2 ∧ Aside0 (spec_RunRing.l0 kq l1 a2 x9_2 x216000_2 x216001_2 = some (r1, r2, r3)) ∧ Aside0 (kq ≤ kj3) ∧ Aside0 (Kd.R (Kd.int .i64) 2 w' w.heap.size (fun k_ => some k_ ≠ (u216001 : Value).ownBlock) u216000 x216000_2) ∧ Aside0 (Kd.R (Kd.int .i64) 2 w' w.heap.size (fun k_ => some k_ ≠ (u216000 : Value).ownBlock) u216001 x216001_2) ∧ Aside0 (w'.heap[gb199]? = some (.cells #[(.slice A0_0 l0_0.length c0_0), (.slice A0_1 l0_1.length c0_1)] 26 (0, 0))) ∧ Aside0 (w'.heap[gb200]? = some (.cells #[(.slice none 0 0), (.slice none 0 0)] 26 (0, 0))) ∧ Aside0 (w'.heap[gb215]? = some (.cells #[u216000, u216001] 26 (0, 0))) ∧ Aside0 (Below w.heap.size w w'))
    case atStart => exact ⟨(0), (y206), (y212), (.slice Ao33 y206.length co33), (.slice Ao32 y212.length co32), (by first | rfl | (simp; done) | (simp [*]; done)), H', ⟨Nat.le_refl _⟩, ⟨by (with_reducible repeat (first | apply Kd.R_alloc | apply Kd.R_drewN | apply Kd.R_drew)); exact Kd.R_mono (Kd.R_far (p := ⟨gb215, 1, none⟩) (Kd.R_far (p := ⟨gb215, 0, none⟩) (Kd.R_types HO208.out BK215.out (by decide)) (fun _ hk => hk.2) (.slice Ao33 y206.length co33)) (fun _ hk => hk.2) (.slice Ao32 y212.length co32)) (fun _ hk => hk.1)⟩, ⟨by (with_reducible repeat (first | apply Kd.R_alloc | apply Kd.R_drewN | apply Kd.R_drew)); exact Kd.R_mono (Kd.R_far (p := ⟨gb215, 1, none⟩) (Kd.R_far (p := ⟨gb215, 0, none⟩) (Kd.R_types HO214.out BK215.out (by decide)) (fun _ hk => hk.2) (.slice Ao33 y206.length co33)) (fun _ hk => hk.2) (.slice Ao32 y212.length co32)) (fun _ hk => hk.1)⟩, ⟨by (with_reducible repeat (first | refine blk_drewN ?_ _ | refine blk_drew ?_ | refine blk_alloc ?_ _)); refine blk_far ?_ NB199_215.out _; (with_reducible repeat (first | refine blk_drewN ?_ _ | refine blk_drew ?_ | refine blk_alloc ?_ _)); refine blk_far ?_ NB199_215.out _; exact bT_ BK199⟩, ⟨by (with_reducible repeat (first | refine blk_drewN ?_ _ | refine blk_drew ?_ | refine blk_alloc ?_ _)); refine blk_far ?_ NB200_215.out _; (with_reducible repeat (first | refine blk_drewN ?_ _ | refine blk_drew ?_ | refine blk_alloc ?_ _)); refine blk_far ?_ NB200_215.out _; exact bT_ BK200⟩, ⟨by (with_reducible repeat (first | refine blk_drewN ?_ _ | refine blk_drew ?_ | refine blk_alloc ?_ _)); refine blk_put (cs := #[.slice Ao33 y206.length co33, .slice none 0 0]) ?_ 1 _ rfl; (with_reducible repeat (first | refine blk_drewN ?_ _ | refine blk_drew ?_ | refine blk_alloc ?_ _)); refine blk_put (cs := #[.slice none 0 0, .slice none 0 0]) ?_ 0 _ rfl; exact bT_ BK215⟩, ⟨by repeat (first | (with_reducible first | exact HB.out | apply below_alloc | apply pw_below_drewN | apply below_drew1 | refine below_set ?_ GE199.out | refine below_set ?_ GE200.out | refine below_set ?_ GE215.out) | exact HB.out)⟩⟩
    case round =>
     clear H'; (try clear c1); (try clear c2); (try clear p2); (try clear c19); (try clear c20)
     obtain ⟨x9_2, x216000_2, x216001_2, u216000, u216001, rfl, HA, HK2, HO_216000, HO_216001, BK199, BK200, BK215, HB⟩ := hrel
     cases gk with
     | zero => exact absurd HA.out (by simp [spec_RunRing.l0])
     | succ k2 =>
      have H := HA.out; clear HA
      simp only [spec_RunRing.l0] at H
      by_cases c36 : x9_2 < a2
      ·rw [if_pos c36] at H
       have c36b0 : decide (x9_2 < a2) = true := decide_eq_true c36
       clear c36; replace H := Option.bind_eq_some_iff.mp H
       obtain ⟨⟨t216, t219⟩, A370, H⟩ := H
       replace H : (spec_RunRing.l0 k2 l1 a2 (wrap64 (x9_2 + 1)) t216 t219) = some (r1, r2, r3) := H
       have A37 := Aside0.mk A370; clear A370; have H' := Aside0.mk H; clear H; have hnb38 := NB215_199.out; have hnc38 := NB199_215.out; have hnb39 := NB215_200.out; have hnc39 := NB200_215.out
       have hcz40_0 : wr.cell? ⟨gb215, 0, none⟩ = some (u216000) := (blk_cell BK215.out 0).trans rfl
       have hcz40_1 : wr.cell? ⟨gb215, 1, none⟩ = some (u216001) := (blk_cell BK215.out 1).trans rfl
       have hfz40_0 := blk_frozen BK215.out 0; have hfz40_1 := blk_frozen BK215.out 1
       obtain ⟨Ao41, co41, eo41⟩ := Kd.R_slice HO_216000.out
       subst eo41
       obtain ⟨Ao42, co42, eo42⟩ := Kd.R_slice HO_216001.out
       subst eo42
       go_wp2_with (first | ((with_reducible refine gate_callee (f := 27) rfl ?_); refine gL_ (some 36) Try.func27 #[.agg #[.slice Ao41 x216000_2.length co41, .slice Ao42 x216001_2.length co42], .slice A1 l1.length c1] ?_; (with_reducible refine (spec_l17Step.calls k2 _ _ x216000_2 _ _ x216001_2 _ _ l1 t216 t219 _ ?side1 ?side2 ?side3 ?side4 ?side5 ?side6 A37.out).mono ?_); (case side1 => exact rD_ HO_216000); (case side2 => exact (Kd.R_reads' HO_216000.out).2.1); (case side3 => exact rD_ HO_216001); (case side4 => exact (Kd.R_reads' HO_216001.out).2.1); (case side5 => exact cB_ HR1 HB); (case side6 => exact HC1.out); rintro e w43 ⟨v217, v220, rfl, ho0, ho1, hb⟩; refine ⟨_, rfl, ?_⟩; have HO218 := rL_ (rN_ (rN_ ho0 HO_216000) HO_216001) HB; have HO221 := rL_ (rN_ (rN_ ho1 HO_216000) HO_216001) HB; replace HO_216000 := Aside0.mk (Kd.R_mono (Kd.R_told (Kd.R_told (Kd.R_old (rT_ HO_216000) hb) (Kd.R_base ho0)) (Kd.R_base ho1)) (fun _ h_ => h_.1)); replace HO_216001 := Aside0.mk (Kd.R_mono (Kd.R_told (Kd.R_told (Kd.R_old (rT_ HO_216001) hb) (Kd.R_base ho0)) (Kd.R_base ho1)) (fun _ h_ => h_.1)); replace BK199 := bB_ BK199 hb; replace BK200 := bB_ BK200 hb; replace BK215 := bB_ BK215 hb; replace HB := bS_ HB hb; (try clear hb); (try clear hb2); (try clear hk); (try clear hi); (try clear ho0); (try clear ho1); obtain ⟨Ao44, co44, eo44⟩ := Kd.R_slice HO218.out; subst eo44; have hcz45_0 : w43.cell? ⟨gb215, 0, none⟩ = some (.slice Ao41 x216000_2.length co41) := (blk_cell BK215.out 0).trans rfl; have hcz45_1 : w43.cell? ⟨gb215, 1, none⟩ = some (.slice Ao42 x216001_2.length co42) := (blk_cell BK215.out 1).trans rfl; have hfz45_0 := blk_frozen BK215.out 0; have hfz45_1 := blk_frozen BK215.out 1; obtain ⟨Ao46, co46, eo46⟩ := Kd.R_slice HO221.out; subst eo46))
       go_roundg k2
       case measure => have := HJ3.out; have := HK2.out; omega
       case rel => exact ⟨(wrap64 (x9_2 + 1)), (t216), (t219), (.slice Ao44 t216.length co44), (.slice Ao46 t219.length co46), (by first | rfl | (simp; done) | (simp [*]; done)), H', ⟨by have := HJ3.out; have := HK2.out; omega⟩, ⟨by (with_reducible repeat (first | apply Kd.R_alloc | apply Kd.R_drewN | apply Kd.R_drew)); exact Kd.R_mono (Kd.R_far (p := ⟨gb215, 1, none⟩) (Kd.R_far (p := ⟨gb215, 0, none⟩) (Kd.R_types HO218.out BK215.out (by decide)) (fun _ hk => hk.2) (.slice Ao44 t216.length co44)) (fun _ hk => hk.2) (.slice Ao46 t219.length co46)) (fun _ hk => hk.1.1.1)⟩, ⟨by (with_reducible repeat (first | apply Kd.R_alloc | apply Kd.R_drewN | apply Kd.R_drew)); exact Kd.R_mono (Kd.R_far (p := ⟨gb215, 1, none⟩) (Kd.R_far (p := ⟨gb215, 0, none⟩) (Kd.R_types HO221.out BK215.out (by decide)) (fun _ hk => hk.2) (.slice Ao44 t216.length co44)) (fun _ hk => hk.2) (.slice Ao46 t219.length co46)) (fun _ hk => hk.1.1.1)⟩, ⟨by (with_reducible repeat (first | refine blk_drewN ?_ _ | refine blk_drew ?_ | refine blk_alloc ?_ _)); refine blk_far ?_ NB199_215.out _; (with_reducible repeat (first | refine blk_drewN ?_ _ | refine blk_drew ?_ | refine blk_alloc ?_ _)); refine blk_far ?_ NB199_215.out _; exact bT_ BK199⟩, ⟨by (with_reducible repeat (first | refine blk_drewN ?_ _ | refine blk_drew ?_ | refine blk_alloc ?_ _)); refine blk_far ?_ NB200_215.out _; (with_reducible repeat (first | refine blk_drewN ?_ _ | refine blk_drew ?_ | refine blk_alloc ?_ _)); refine blk_far ?_ NB200_215.out _; exact bT_ BK200⟩, ⟨by (with_reducible repeat (first | refine blk_drewN ?_ _ | refine blk_drew ?_ | refine blk_alloc ?_ _)); refine blk_put (cs := #[.slice Ao44 t216.length co44, .slice Ao42 x216001_2.length co42]) ?_ 1 _ rfl; (with_reducible repeat (first | refine blk_drewN ?_ _ | refine blk_drew ?_ | refine blk_alloc ?_ _)); refine blk_put (cs := #[.slice Ao41 x216000_2.length co41, .slice Ao42 x216001_2.length co42]) ?_ 0 _ rfl; exact bT_ BK215⟩, ⟨by repeat (first | (with_reducible first | exact HB.out | apply below_alloc | apply pw_below_drewN | apply below_drew1 | refine below_set ?_ GE199.out | refine below_set ?_ GE200.out | refine below_set ?_ GE215.out) | exact HB.out)⟩⟩
      ·rw [if_neg c36] at H
       have c36b0 : decide (x9_2 < a2) = false := decide_eq_false c36
       clear c36
       simp only [Option.some.injEq, Prod.mk.injEq] at H
       obtain ⟨rfl, rfl, rfl⟩ := H
       have hnb47 := NB215_199.out; have hnc47 := NB199_215.out; have hnb48 := NB215_200.out; have hnc48 := NB200_215.out
       have hcz49_0 : wr.cell? ⟨gb215, 0, none⟩ = some (u216000) := (blk_cell BK215.out 0).trans rfl
       have hcz49_1 : wr.cell? ⟨gb215, 1, none⟩ = some (u216001) := (blk_cell BK215.out 1).trans rfl
       have hfz49_0 := blk_frozen BK215.out 0; have hfz49_1 := blk_frozen BK215.out 1
       obtain ⟨Ao50, co50, eo50⟩ := Kd.R_slice HO_216000.out
       subst eo50
       have hnb51 := NB200_199.out; have hnc51 := NB199_200.out
       have hcz52_0 : wr.cell? ⟨gb200, 0, none⟩ = some (.slice none 0 0) := (blk_cell BK200.out 0).trans rfl
       have hcz52_1 : wr.cell? ⟨gb200, 1, none⟩ = some (.slice none 0 0) := (blk_cell BK200.out 1).trans rfl
       have hfz52_0 := blk_frozen BK200.out 0; have hfz52_1 := blk_frozen BK200.out 1
       obtain ⟨Ao53, co53, eo53⟩ := Kd.R_slice HO_216001.out
       subst eo53
       go_wp2
       refine bodyPost_ret (results_ct rfl _ _ gb200 26 #[.slice Ao50 x216000_2.length co50, .slice Ao53 x216001_2.length co53] (0, 0) _ rfl (by (with_reducible repeat (first | refine blk_drewN ?_ _ | refine blk_drew ?_ | refine blk_alloc ?_ _)); refine blk_put (cs := #[.slice Ao50 x216000_2.length co50, .slice none 0 0]) ?_ 1 _ rfl; (with_reducible repeat (first | refine blk_drewN ?_ _ | refine blk_drew ?_ | refine blk_alloc ?_ _)); refine blk_put (cs := #[.slice none 0 0, .slice none 0 0]) ?_ 0 _ rfl; exact bT_ BK200) Try.underlying26 rfl (by kernel_rfl)) rfl ?_
       exact ⟨_, _, by first | rfl | (simp [errW_none, errW_some] <;> rfl) | (simp [*, errW_none, errW_some] <;> rfl), by (with_reducible repeat (first | apply Kd.R_alloc | apply Kd.R_drewN | apply Kd.R_drew)); exact Kd.R_mono (Kd.R_far (p := ⟨gb200, 1, none⟩) (Kd.R_far (p := ⟨gb200, 0, none⟩) (Kd.R_types HO_216000.out BK200.out (by decide)) (fun _ hk => hk.2) (.slice Ao50 x216000_2.length co50)) (fun _ hk => hk.2) (.slice Ao53 x216001_2.length co53)) (fun _ hk => hk.1), by (with_reducible repeat (first | apply Kd.R_alloc | apply Kd.R_drewN | apply Kd.R_drew)); exact Kd.R_mono (Kd.R_far (p := ⟨gb200, 1, none⟩) (Kd.R_far (p := ⟨gb200, 0, none⟩) (Kd.R_types HO_216001.out BK200.out (by decide)) (fun _ hk => hk.2) (.slice Ao50 x216000_2.length co50)) (fun _ hk => hk.2) (.slice Ao53 x216001_2.length co53)) (fun _ hk => hk.1), by repeat (first | (with_reducible first | exact HB.out | apply below_alloc | apply pw_below_drewN | apply below_drew1 | refine below_set ?_ GE199.out | refine below_set ?_ GE200.out | refine below_set ?_ GE215.out) | exact HB.out)⟩

end Go.Proofs.Ytjmpgngndnheaaa.QFnExactRunRing
