-- Written by a program of this session out of the printer's texts and contracts of its own.
import Derived.Test.YtjmpgngndnheaaaSq
import Derived.Test.YtjmpgngndnheaaaQFnRingKeptx0
import Derived.Test.YtjmpgngndnheaaaQFnRingKeptx2
import Derived.Test.YtjmpgngndnheaaaQFnRingKeptx3
import Derived.Test.YtjmpgngndnheaaaQFnRingKeptx4
namespace Go.Proofs.Ytjmpgngndnheaaa.QFnRingKept
open Go.RowKit Go.Proofs.YtjmpgngndnheaaaW.PrintWords Go.Proofs.YtjmpgngndnheaaaW.PrintLast Go.Proofs.YtjmpgngndnheaaaW.PrintMore Go.Proofs.Ytjmpgngndnheaaa.Sq
attribute [local go_sem] max2_int min2_int max_two min_two max_three min_three max_four min_four   -- for this text's walks alone
set_option linter.unusedVariables false
set_option linter.unusedSimpArgs false
theorem sABelo_5 {b : Nat} {w W : World} (h : Below b w W := by repeat (first | (with_reducible first | exact Aside0.out (by assumption) | apply below_alloc | apply pw_below_drewN | apply below_drew1 | refine below_set ?_ (Aside0.out (by assumption))) | exact Aside0.out (by assumption))) : Below b w W := h

/-! ### spec_RunRing: function 16 -/
mutual
def spec_RunRing.j0 : Nat → List Int → Int → Bool → List Int → List Int → Option (List Int × List Int × Bool)
 | 0, _, _, _, _, _ => none
 | k + 1, x1, x2, x18, x216000, x216001 => if x18 = true then (some (([] : List Int), ([] : List Int), false)) else ((some (([] : List Int) : List Int)).bind fun y219 => (if y219.length + x216000.length < 17592186044416 then ((some (([] : List Int) : List Int)).bind fun y225 => (if y225.length + x216001.length < 17592186044416 then (spec_RunRing.l0 k x1 x2 0 (y219 ++ x216000) (y225 ++ x216001)) else (none))) else (none)))
def spec_RunRing.l0 : Nat → List Int → Int → Int → List Int → List Int → Option (List Int × List Int × Bool)
 | 0, _, _, _, _, _ => none
 | k + 1, x1, x2, x9, x232000, x232001 => if x9 < x2 then ((spec_l17Step.f k x232000 x232001 x1).bind fun bt232 => (spec_RunRing.l0 k x1 x2 (wrap64 (x9 + 1)) bt232.1 bt232.2)) else (some (x232000, x232001, true))
end
def spec_RunRing.f (k : Nat) (l0_0 : List Int) (l0_1 : List Int) (l1 : List Int) (a2 : Int) : Option (List Int × List Int × Bool) := (spec_l17WindsOk.f k l0_0 l0_1 l1).bind fun t217 => (if t217 = true then ((spec_l2In.f a2 0 200).bind fun t218 => (spec_RunRing.j0 k l1 a2 (!t218) l0_0 l0_1)) else (spec_RunRing.j0 k l1 a2 true l0_0 l0_1))
theorem spec_RunRing.mono_l : ∀ k, (∀ y0 y1 y2 y3 y4, LeO (spec_RunRing.j0 k y0 y1 y2 y3 y4) (spec_RunRing.j0 (k + 1) y0 y1 y2 y3 y4)) ∧ (∀ y0 y1 y2 y3 y4, LeO (spec_RunRing.l0 k y0 y1 y2 y3 y4) (spec_RunRing.l0 (k + 1) y0 y1 y2 y3 y4))
 | 0 => ⟨fun _ _ _ _ _ r h => by simp [spec_RunRing.j0] at h, fun _ _ _ _ _ r h => by simp [spec_RunRing.l0] at h⟩
 | k + 1 => by
  obtain ⟨ih0, ih1⟩ := spec_RunRing.mono_l k
  refine ⟨?_, ?_⟩
  intro y0 y1 y2 y3 y4; unfold spec_RunRing.j0; rotate_left
  intro y0 y1 y2 y3 y4; unfold spec_RunRing.l0; rotate_left
  all_goals repeat' first
  | (with_reducible exact ih0 _ _ _ _ _)
  | (with_reducible exact ih1 _ _ _ _ _)
  | (with_reducible exact spec_l17Step.mono _ _ _ _)
  | (with_reducible exact spec_l17WindsOk.mono _ _ _ _)
  | (with_reducible exact LeO.refl _)
  | (with_reducible exact LeO.none _)
  | (with_reducible refine LeO.ite ?_ ?_)
  | (with_reducible refine LeO.bind ?_ (fun _ => ?_))
  | exact ih0 _ _ _ _ _
  | exact ih1 _ _ _ _ _
  | exact spec_l17Step.mono _ _ _ _
  | exact spec_l17WindsOk.mono _ _ _ _
  | exact LeO.none _
  | refine LeO.ite ?_ ?_
  | refine LeO.bind ?_ (fun _ => ?_)
theorem spec_RunRing.mono : ∀ a0 a1 a2 a3 k, LeO (spec_RunRing.f k a0 a1 a2 a3) (spec_RunRing.f (k + 1) a0 a1 a2 a3) := by
 intro a0 a1 a2 a3 k
 obtain ⟨ih0, ih1⟩ := spec_RunRing.mono_l k
 unfold spec_RunRing.f
 repeat' first
   | (with_reducible exact ih0 _ _ _ _ _)
   | (with_reducible exact ih1 _ _ _ _ _)
   | (with_reducible exact spec_l17Step.mono _ _ _ _)
   | (with_reducible exact spec_l17WindsOk.mono _ _ _ _)
   | (with_reducible exact LeO.refl _)
   | (with_reducible exact LeO.none _)
   | (with_reducible refine LeO.ite ?_ ?_)
   | (with_reducible refine LeO.bind ?_ (fun _ => ?_))
   | exact ih0 _ _ _ _ _
   | exact ih1 _ _ _ _ _
   | exact spec_l17Step.mono _ _ _ _
   | exact spec_l17WindsOk.mono _ _ _ _
   | exact LeO.none _
   | refine LeO.ite ?_ ?_
   | refine LeO.bind ?_ (fun _ => ?_)
def spec_RunRing.T3 : Bool × List (List Nat × List Nat) := (true, [([], []), ([], []), ([1], [1]), ([0, 2], [0, 2]), ([], []), ([], []), ([5], [5]), ([4, 6, 3], [4, 6]), ([3, 7], [3, 7]), ([], []), ([9, 8, 7, 0, 1, 2, 3, 4, 5, 6, 7, 8, 9], [8, 9])])
def spec_RunRing.B3 : List Nat := [0, 0, 2, 7, 0, 0, 32, 127, 255, 0, 1023]
theorem spec_RunRing.tab3 : rtab .any (opsOf Try.f16 3) = spec_RunRing.T3 := by kernel_rfl
theorem spec_RunRing.bits3 : waitsOk spec_RunRing.T3.2 spec_RunRing.B3 = true := by kernel_rfl
set_option maxHeartbeats 8000000 in
set_option maxRecDepth 100000 in
theorem spec_RunRing.calls (k : Nat) (A0_0 : Option Addr) (c0_0 : Nat) (l0_0 : List Int) (A0_1 : Option Addr) (c0_1 : Nat) (l0_1 : List Int) (A1 : Option Addr) (c1 : Nat) (l1 : List Int) (a2 : Int) (r1 : List Int) (r2 : List Int) (r3 : Bool) (w : World) (hr0_0 : Kd.C (Kd.int .i64) w A0_0 l0_0.length l0_0) (hc0_0 : l0_0.length ≤ c0_0) (hr0_1 : Kd.C (Kd.int .i64) w A0_1 l0_1.length l0_1) (hc0_1 : l0_1.length ≤ c0_1) (hr1 : Kd.C (Kd.int .i64) w A1 l1.length l1) (hc1 : l1.length ≤ c1) (h : spec_RunRing.f k l0_0 l0_1 l1 a2 = some (r1, r2, r3)) :
  Calls Try.prog 16 #[.agg #[.slice A0_0 l0_0.length c0_0, .slice A0_1 l0_1.length c0_1], .slice A1 l1.length c1, .int .i64 a2] w fun e w' => ∃ v0_ v1_ : Value, e = .returned (.tuple #[.agg #[v0_, v1_], .bool r3]) ∧ Kd.R (Kd.int .i64) 2 w' w.heap.size (fun k_ => some k_ ≠ (v1_ : Value).ownBlock) v0_ r1 ∧ Kd.R (Kd.int .i64) 2 w' w.heap.size (fun k_ => some k_ ≠ (v0_ : Value).ownBlock) v1_ r2 ∧ Below w.heap.size w w' := by
 have hu26 := Try.underlying26; have HR0_0 := Aside0.mk hr0_0; have HC0_0 := Aside0.mk hc0_0; clear hr0_0 hc0_0; have HR0_1 := Aside0.mk hr0_1; have HC0_1 := Aside0.mk hc0_1; clear hr0_1 hc0_1; have HR1 := Aside0.mk hr1; have HC1 := Aside0.mk hc1; clear hr1 hc1
 have HB := Aside0.mk (Below.refl w.heap.size w)
 have H : ((spec_l17WindsOk.f k l0_0 l0_1 l1).bind fun t217 => (if t217 = true then ((spec_l2In.f a2 0 200).bind fun t218 => (spec_RunRing.j0 k l1 a2 (!t218) l0_0 l0_1)) else (spec_RunRing.j0 k l1 a2 true l0_0 l0_1))) = some (r1, r2, r3) := h
 clear h; have HC4 := Aside0.mk H; clear H
 go_enter Try.func16, Try.ntmps16
 go_upto_region 1 with (first | ((with_reducible refine gate_dst (N := 3) rfl ?_); refine box_event ?hg (N := 3) ?hd (cs := #[.slice A0_0 l0_0.length c0_0, .slice A0_1 l0_1.length c0_1]) (t := 26) ?hr ?_; (case hd => rfl); (case hg => rfl); (case hr => first | (go_simp; done) | (go_simp; rfl)); intro gb215 hg w5 hbox hb; have BK215 := Aside0.mk (hbox); have GW215 := gE_ HB hg; have GE215 := gE_ HB hg; replace HB := bS_ HB hb; clear hb hbox hg) | ((with_reducible refine gate_dst (N := 6) rfl ?_); refine box_event ?hg (N := 6) ?hd (cs := #[.slice none 0 0, .slice none 0 0]) (t := 26) ?hr ?_; (case hd => rfl); (case hg => rfl); (case hr => first | (go_simp; done) | (go_simp; rfl)); intro gb216 hg w6 hbox hb; have BK216 := Aside0.mk (hbox); have GW216 := gE_ HB hg; have GE216 := gE_ HB hg; replace HB := bS_ HB hb; have NB215_216 := nL_ BK215 hg; have NB216_215 := nG_ BK215 hg; replace BK215 := bB_ BK215 hb; clear hb hbox hg))
 (try simp only [Act.put, List.setIfInBounds_toArray, List.set_cons_zero, List.set_cons_succ])
 go_cut [18] (fun v18 wc => ∃ (kq : Nat) (x18_3 : Bool), v18 = .bool x18_3 ∧ Aside0 (spec_RunRing.j0 kq l1 a2 x18_3 l0_0 l0_1 = some (r1, r2, r3)) ∧ Aside0 (kq ≤ k) ∧ Aside0 (wc.heap[gb215]? = some (.cells #[(.slice A0_0 l0_0.length c0_0), (.slice A0_1 l0_1.length c0_1)] 26 (0, 0))) ∧ Aside0 (wc.heap[gb216]? = some (.cells #[(.slice none 0 0), (.slice none 0 0)] 26 (0, 0))) ∧ Aside0 (Below w.heap.size w wc))
 case first =>
  have H := HC4.out; clear HC4; replace H := Option.bind_eq_some_iff.mp H
  obtain ⟨t217, A70, H⟩ := H
  replace H : (if t217 = true then ((spec_l2In.f a2 0 200).bind fun t218 => (spec_RunRing.j0 k l1 a2 (!t218) l0_0 l0_1)) else (spec_RunRing.j0 k l1 a2 true l0_0 l0_1)) = some (r1, r2, r3) := H
  have A7 := Aside0.mk A70; clear A70
  by_cases c8 : t217 = true
  ·subst c8
   have H1 : ((spec_l2In.f a2 0 200).bind fun t218 => (spec_RunRing.j0 k l1 a2 (!t218) l0_0 l0_1)) = some (r1, r2, r3) := by rw [if_pos rfl] at H; exact H
   clear H; have H := H1; clear H1; replace H := Option.bind_eq_some_iff.mp H
   obtain ⟨t218, A90, H⟩ := H
   replace H : (spec_RunRing.j0 k l1 a2 (!t218) l0_0 l0_1) = some (r1, r2, r3) := H
   have A9 := Aside0.mk A90; clear A90; have H' := Aside0.mk H; clear H; have hnb10 := NB215_216.out; have hnc10 := NB216_215.out
   have hcz11_0 : w6.cell? ⟨gb215, 0, none⟩ = some (.slice A0_0 l0_0.length c0_0) := (blk_cell BK215.out 0).trans rfl
   have hcz11_1 : w6.cell? ⟨gb215, 1, none⟩ = some (.slice A0_1 l0_1.length c0_1) := (blk_cell BK215.out 1).trans rfl
   have hfz11_0 := blk_frozen BK215.out 0; have hfz11_1 := blk_frozen BK215.out 1
   go_wp2_with (first | ((with_reducible refine gate_callee (f := 25) rfl ?_); refine gL_ (some 12) Try.func25 #[.agg #[.slice A0_0 l0_0.length c0_0, .slice A0_1 l0_1.length c0_1], .slice A1 l1.length c1] ?_; (with_reducible refine (spec_l17WindsOk.calls k _ _ l0_0 _ _ l0_1 _ _ l1 true _ ?side1 ?side2 ?side3 ?side4 ?side5 ?side6 A7.out).mono ?_); (case side1 => exact cB_ HR0_0 HB); (case side2 => exact HC0_0.out); (case side3 => exact cB_ HR0_1 HB); (case side4 => exact HC0_1.out); (case side5 => exact cB_ HR1 HB); (case side6 => exact HC1.out); rintro e w12 ⟨rfl, hb⟩; refine ⟨_, rfl, ?_⟩; replace BK215 := bB_ BK215 hb; replace BK216 := bB_ BK216 hb; replace HB := bS_ HB hb; (try clear hb); (try clear hb2); (try clear hk); (try clear hi)) | (go_at_call 26; (with_reducible refine (spec_l2In.calls a2 0 200 t218 _ A9.out).mono ?_); rintro e w' ⟨rfl, ⟨nd, rfl⟩⟩))
   go_meet
   case rel => exact ⟨_, (!t218), (by first | rfl | (simp; done) | (simp [*]; done)), H', ⟨by first | omega | exact Nat.le_refl _⟩, ⟨by exact bT_ BK215⟩, ⟨by exact bT_ BK216⟩, ⟨sABelo_5⟩⟩
  ·replace c8 := Bool.eq_false_iff.mpr c8
   subst c8
   have H1 : (spec_RunRing.j0 k l1 a2 true l0_0 l0_1) = some (r1, r2, r3) := by rw [if_neg (show ¬ (false = true) by decide)] at H; exact H
   clear H; have H := H1; clear H1; have H' := Aside0.mk H; clear H; have hnb13 := NB215_216.out; have hnc13 := NB216_215.out
   have hcz14_0 : w6.cell? ⟨gb215, 0, none⟩ = some (.slice A0_0 l0_0.length c0_0) := (blk_cell BK215.out 0).trans rfl
   have hcz14_1 : w6.cell? ⟨gb215, 1, none⟩ = some (.slice A0_1 l0_1.length c0_1) := (blk_cell BK215.out 1).trans rfl
   have hfz14_0 := blk_frozen BK215.out 0; have hfz14_1 := blk_frozen BK215.out 1
   go_wp2_with (first | ((with_reducible refine gate_callee (f := 25) rfl ?_); refine gL_ (some 12) Try.func25 #[.agg #[.slice A0_0 l0_0.length c0_0, .slice A0_1 l0_1.length c0_1], .slice A1 l1.length c1] ?_; (with_reducible refine (spec_l17WindsOk.calls k _ _ l0_0 _ _ l0_1 _ _ l1 false _ ?side1 ?side2 ?side3 ?side4 ?side5 ?side6 A7.out).mono ?_); (case side1 => exact cB_ HR0_0 HB); (case side2 => exact HC0_0.out); (case side3 => exact cB_ HR0_1 HB); (case side4 => exact HC0_1.out); (case side5 => exact cB_ HR1 HB); (case side6 => exact HC1.out); rintro e w15 ⟨rfl, hb⟩; refine ⟨_, rfl, ?_⟩; replace BK215 := bB_ BK215 hb; replace BK216 := bB_ BK216 hb; replace HB := bS_ HB hb; (try clear hb); (try clear hb2); (try clear hk); (try clear hi)))
   go_meet
   case rel => exact ⟨_, (true), (by first | rfl | (simp; done) | (simp [*]; done)), H', ⟨by first | omega | exact Nat.le_refl _⟩, ⟨by exact bT_ BK215⟩, ⟨by exact bT_ BK216⟩, ⟨sABelo_5⟩⟩
 case rest =>
  clear HC4; (try clear c1); (try clear c2); (try clear p2); (try clear c8); (try clear c10); (try clear c13); (try clear hcz11_0); (try clear hcz11_1); (try clear hcz14_0); (try clear hcz14_1); (try clear hfz11_0); (try clear hfz11_1); (try clear hfz14_0); (try clear hfz14_1)
  obtain ⟨kq, x18_3, rfl, HA, HJ3, BK215, BK216, HB⟩ := hcut
  cases kq with
  | zero => exact absurd HA.out (by simp [spec_RunRing.j0])
  | succ kj3 =>
   have H := HA.out; clear HA
   simp only [spec_RunRing.j0] at H
   by_cases c16 : x18_3 = true
   ·subst c16
    have H1 : (some (([] : List Int), ([] : List Int), false)) = some (r1, r2, r3) := by rw [if_pos rfl] at H; exact H
    clear H; have H := H1; clear H1
    simp only [Option.some.injEq, Prod.mk.injEq] at H
    obtain ⟨rfl, rfl, rfl⟩ := H
    have hnb17 := NB216_215.out; have hnc17 := NB215_216.out
    have hcz18_0 : wc.cell? ⟨gb216, 0, none⟩ = some (.slice none 0 0) := (blk_cell BK216.out 0).trans rfl
    have hcz18_1 : wc.cell? ⟨gb216, 1, none⟩ = some (.slice none 0 0) := (blk_cell BK216.out 1).trans rfl
    have hfz18_0 := blk_frozen BK216.out 0; have hfz18_1 := blk_frozen BK216.out 1
    go_wp2
    refine bodyPost_ret (results_ct rfl _ _ gb216 26 #[.slice none 0 0, .slice none 0 0] (0, 0) _ rfl (by (with_reducible repeat (first | refine blk_drewN ?_ _ | refine blk_drew ?_ | refine blk_alloc ?_ _)); refine blk_put (cs := #[.slice none 0 0, .slice none 0 0]) ?_ 1 _ rfl; (with_reducible repeat (first | refine blk_drewN ?_ _ | refine blk_drew ?_ | refine blk_alloc ?_ _)); refine blk_put (cs := #[.slice none 0 0, .slice none 0 0]) ?_ 0 _ rfl; exact bT_ BK216) Try.underlying26 rfl (by kernel_rfl)) rfl ?_
    exact ⟨_, _, by first | rfl | (simp [errW_none, errW_some] <;> rfl) | (simp [*, errW_none, errW_some] <;> rfl), by first | exact Kd.R_nil _ _ _ _ _ | exact Kd.N_nil _ _ _ _ _ | exact Kd.V_nil _ _ _ _ _ | exact Kd.Q_nil _ _ _ _ _ | exact Kd.S_nil _ _ _ _ _, by first | exact Kd.R_nil _ _ _ _ _ | exact Kd.N_nil _ _ _ _ _ | exact Kd.V_nil _ _ _ _ _ | exact Kd.Q_nil _ _ _ _ _ | exact Kd.S_nil _ _ _ _ _, sABelo_5⟩
   ·replace c16 := Bool.eq_false_iff.mpr c16
    subst c16
    have H1 : ((some (([] : List Int) : List Int)).bind fun y219 => (if y219.length + l0_0.length < 17592186044416 then ((some (([] : List Int) : List Int)).bind fun y225 => (if y225.length + l0_1.length < 17592186044416 then (spec_RunRing.l0 kj3 l1 a2 0 (y219 ++ l0_0) (y225 ++ l0_1)) else (none))) else (none))) = some (r1, r2, r3) := by rw [if_neg (show ¬ (false = true) by decide)] at H; exact H
    clear H; have H := H1; clear H1
    obtain ⟨y219, hy219⟩ : ∃ y_ : List Int, y_ = (([] : List Int)) := ⟨_, rfl⟩
    replace H : (if y219.length + l0_0.length < 17592186044416 then ((some (([] : List Int) : List Int)).bind fun y225 => (if y225.length + l0_1.length < 17592186044416 then (spec_RunRing.l0 kj3 l1 a2 0 (y219 ++ l0_0) (y225 ++ l0_1)) else (none))) else (none)) = some (r1, r2, r3) := by first | (rw [hy219]; with_reducible exact H) | (have H2_ := (Option.bind_some _ _).symm.trans H; rw [hy219]; with_reducible exact H2_) | (have H2_ := (Option.bind_some _ _).symm.trans H; with_reducible exact H2_) | with_reducible exact H | (rw [hy219]; exact H) | exact H
    have Ny219 := Aside0.mk hy219; clear hy219
    obtain ⟨c19, H⟩ := ifS_ H
    have LMc19 := Aside0.mk c19; clear c19
    obtain ⟨y222, hy222⟩ : ∃ y_ : List Int, y_ = (y219 ++ l0_0) := ⟨_, rfl⟩
    replace H : ((some (([] : List Int) : List Int)).bind fun y225 => (if y225.length + l0_1.length < 17592186044416 then (spec_RunRing.l0 kj3 l1 a2 0 y222 (y225 ++ l0_1)) else (none))) = some (r1, r2, r3) := by first | (rw [hy222]; with_reducible exact H) | (have H2_ := (Option.bind_some _ _).symm.trans H; rw [hy222]; with_reducible exact H2_) | (have H2_ := (Option.bind_some _ _).symm.trans H; with_reducible exact H2_) | with_reducible exact H | (rw [hy222]; exact H) | exact H
    have Ny222 := Aside0.mk hy222; clear hy222
    obtain ⟨y225, hy225⟩ : ∃ y_ : List Int, y_ = (([] : List Int)) := ⟨_, rfl⟩
    replace H : (if y225.length + l0_1.length < 17592186044416 then (spec_RunRing.l0 kj3 l1 a2 0 y222 (y225 ++ l0_1)) else (none)) = some (r1, r2, r3) := by first | (rw [hy225]; with_reducible exact H) | (have H2_ := (Option.bind_some _ _).symm.trans H; rw [hy225]; with_reducible exact H2_) | (have H2_ := (Option.bind_some _ _).symm.trans H; with_reducible exact H2_) | with_reducible exact H | (rw [hy225]; exact H) | exact H
    have Ny225 := Aside0.mk hy225; clear hy225
    obtain ⟨c20, H⟩ := ifS_ H
    have LMc20 := Aside0.mk c20; clear c20
    obtain ⟨y228, hy228⟩ : ∃ y_ : List Int, y_ = (y225 ++ l0_1) := ⟨_, rfl⟩
    replace H : (spec_RunRing.l0 kj3 l1 a2 0 y222 y228) = some (r1, r2, r3) := by first | (rw [hy228]; with_reducible exact H) | (have H2_ := (Option.bind_some _ _).symm.trans H; rw [hy228]; with_reducible exact H2_) | (have H2_ := (Option.bind_some _ _).symm.trans H; with_reducible exact H2_) | with_reducible exact H | (rw [hy228]; exact H) | exact H
    have Ny228 := Aside0.mk hy228; clear hy228; have H' := Aside0.mk H; clear H
    try go_wp2
    replace BK215 := Aside0.mk (blk_drew BK215.out)
    replace BK216 := Aside0.mk (blk_drew BK216.out)
    replace HB := Aside0.mk (below_drew1 HB.out)
    refine start_ (n := 11) (S := fun w' => w'.cell? ⟨gb215, 0, none⟩ = some (.slice A0_0 l0_0.length c0_0) ∧ w'.cell? ⟨gb215, 1, none⟩ = some (.slice A0_1 l0_1.length c0_1)) (ds := []) #[false, false, false, false, false, false, false, false, false, false, false] (by kernel_rfl) rfl rfl ⟨(blk_cell BK215.out 0).trans rfl, (blk_cell BK215.out 1).trans rfl⟩ (fun hHeld => ?_); refine with_tabW spec_RunRing.tab3 spec_RunRing.bits3 (fun HT_ HW_ => ?_)
    generalize wc.drew = w21 at BK215 BK216 HB hHeld ⊢
    refine pT_ 1 (some 21) #[false, true, false, false, false, false, false, false, false, false, false] HT_ ?_
    refine pT_ 5 (some 25) #[false, true, false, false, false, true, false, false, false, false, false] HT_ ?_
    refine tT_ 2 (some 22) #[false, true, true, false, false, true, false, false, false, false, false] HT_ HW_ hHeld ?_ (hy := by rintro w' ⟨s0, s1⟩; go_simp; with_reducible rfl)
    refine tT_ 6 (some 26) #[false, true, true, false, false, true, true, false, false, false, false] HT_ HW_ hHeld ?_ (hy := by rintro w' ⟨s0, s1⟩; go_simp; with_reducible rfl)
    refine join_ (σ := Value × Value × Value × Value × Nat) 1 #[true, true, true, true, true, true, true, true, true, true, false] (fun s_ => [(20, s_.1), (23, s_.2.1), (24, s_.2.2.1), (27, s_.2.2.2.1), (8, .pointer (some ⟨s_.2.2.2.2, 0, none⟩)), (28, .agg #[s_.2.1, s_.2.2.2.1])]) (fun s_ w' => (w'.cell? ⟨gb215, 0, none⟩ = some (.slice A0_0 l0_0.length c0_0) ∧ w'.cell? ⟨gb215, 1, none⟩ = some (.slice A0_1 l0_1.length c0_1)) ∧ (Kd.R (Kd.int .i64) 2 w' w.heap.size (fun k_ => some k_ ≠ (s_.2.2.2.1 : Value).ownBlock) s_.2.1 y222) ∧ (Kd.R (Kd.int .i64) 2 w' w.heap.size (fun k_ => some k_ ≠ (s_.2.1 : Value).ownBlock) s_.2.2.2.1 y228) ∧ (w'.heap[gb215]? = some (.cells #[.slice A0_0 l0_0.length c0_0, .slice A0_1 l0_1.length c0_1] 26 (0, 0))) ∧ (w'.heap[gb216]? = some (.cells #[.slice none 0 0, .slice none 0 0] 26 (0, 0))) ∧ (w'.heap[s_.2.2.2.2]? = some (.cells #[.slice none 0 0, .slice none 0 0] 26 (0, 0))) ∧ (w.heap.size ≤ s_.2.2.2.2) ∧ (w.heap.size ≤ s_.2.2.2.2) ∧ (gb215 ≠ s_.2.2.2.2) ∧ (s_.2.2.2.2 ≠ gb215) ∧ (gb216 ≠ s_.2.2.2.2) ∧ (s_.2.2.2.2 ≠ gb216) ∧ (Below w.heap.size w w')) ?_ ?_
    rotate_left
    ·intro hJ0_3_4_7_9
     refine join_ (σ := Value × Value × Value × Value) 2 #[true, true, true, true, true, true, true, true, true, false, false] (fun s_ => [(20, s_.1), (23, s_.2.1), (24, s_.2.2.1), (27, s_.2.2.2), (28, .agg #[s_.2.1, s_.2.2.2])]) (fun s_ w' => (w'.cell? ⟨gb215, 0, none⟩ = some (.slice A0_0 l0_0.length c0_0) ∧ w'.cell? ⟨gb215, 1, none⟩ = some (.slice A0_1 l0_1.length c0_1)) ∧ (Kd.R (Kd.int .i64) 2 w' w.heap.size (fun k_ => some k_ ≠ (s_.2.2.2 : Value).ownBlock) s_.2.1 y222) ∧ (Kd.R (Kd.int .i64) 2 w' w.heap.size (fun k_ => some k_ ≠ (s_.2.1 : Value).ownBlock) s_.2.2.2 y228) ∧ (w'.heap[gb215]? = some (.cells #[.slice A0_0 l0_0.length c0_0, .slice A0_1 l0_1.length c0_1] 26 (0, 0))) ∧ (w'.heap[gb216]? = some (.cells #[.slice none 0 0, .slice none 0 0] 26 (0, 0))) ∧ (Below w.heap.size w w')) ?_ ?_
     rotate_left
     ·intro hJ0_3_4_7
      refine join_ (σ := Value × Value × Value × Nat) 3 #[true, true, true, true, true, true, true, false, false, true, false] (fun s_ => [(20, s_.1), (23, s_.2.1), (24, s_.2.2.1), (8, .pointer (some ⟨s_.2.2.2, 0, none⟩))]) (fun s_ w' => (w'.cell? ⟨gb215, 0, none⟩ = some (.slice A0_0 l0_0.length c0_0) ∧ w'.cell? ⟨gb215, 1, none⟩ = some (.slice A0_1 l0_1.length c0_1)) ∧ (Kd.R (Kd.int .i64) 2 w' w.heap.size (fun k_ => some k_ ≠ (s_.2.2.1 : Value).ownBlock) s_.2.1 y222) ∧ (Kd.R (Kd.int .i64) 2 w' w.heap.size (fun k_ => some k_ ≠ (s_.2.1 : Value).ownBlock) s_.2.2.1 y225) ∧ (w'.heap[gb215]? = some (.cells #[.slice A0_0 l0_0.length c0_0, .slice A0_1 l0_1.length c0_1] 26 (0, 0))) ∧ (w'.heap[gb216]? = some (.cells #[.slice none 0 0, .slice none 0 0] 26 (0, 0))) ∧ (w'.heap[s_.2.2.2]? = some (.cells #[.slice none 0 0, .slice none 0 0] 26 (0, 0))) ∧ (w.heap.size ≤ s_.2.2.2) ∧ (w.heap.size ≤ s_.2.2.2) ∧ (gb215 ≠ s_.2.2.2) ∧ (s_.2.2.2 ≠ gb215) ∧ (gb216 ≠ s_.2.2.2) ∧ (s_.2.2.2 ≠ gb216) ∧ (Below w.heap.size w w')) ?_ ?_
      rotate_left
      ·intro hJ0_3_4_9
       refine join_ (σ := Value × Value × Value) 4 #[true, true, true, true, true, true, true, false, false, false, false] (fun s_ => [(20, s_.1), (23, s_.2.1), (24, s_.2.2)]) (fun s_ w' => (w'.cell? ⟨gb215, 0, none⟩ = some (.slice A0_0 l0_0.length c0_0) ∧ w'.cell? ⟨gb215, 1, none⟩ = some (.slice A0_1 l0_1.length c0_1)) ∧ (Kd.R (Kd.int .i64) 2 w' w.heap.size (fun k_ => some k_ ≠ (s_.2.2 : Value).ownBlock) s_.2.1 y222) ∧ (Kd.R (Kd.int .i64) 2 w' w.heap.size (fun k_ => some k_ ≠ (s_.2.1 : Value).ownBlock) s_.2.2 y225) ∧ (w'.heap[gb215]? = some (.cells #[.slice A0_0 l0_0.length c0_0, .slice A0_1 l0_1.length c0_1] 26 (0, 0))) ∧ (w'.heap[gb216]? = some (.cells #[.slice none 0 0, .slice none 0 0] 26 (0, 0))) ∧ (Below w.heap.size w w')) ?_ ?_
       rotate_left
       ·intro hJ0_3_4
        refine join_ (σ := Value × Value × Nat) 4 #[true, true, true, true, false, true, true, false, false, true, false] (fun s_ => [(20, s_.1), (23, s_.2.1), (8, .pointer (some ⟨s_.2.2, 0, none⟩))]) (fun s_ w' => (w'.cell? ⟨gb215, 0, none⟩ = some (.slice A0_0 l0_0.length c0_0) ∧ w'.cell? ⟨gb215, 1, none⟩ = some (.slice A0_1 l0_1.length c0_1)) ∧ (Kd.R (Kd.int .i64) 2 w' w.heap.size (fun _ => True) s_.2.1 y222) ∧ (w'.heap[gb215]? = some (.cells #[.slice A0_0 l0_0.length c0_0, .slice A0_1 l0_1.length c0_1] 26 (0, 0))) ∧ (w'.heap[gb216]? = some (.cells #[.slice none 0 0, .slice none 0 0] 26 (0, 0))) ∧ (w'.heap[s_.2.2]? = some (.cells #[.slice none 0 0, .slice none 0 0] 26 (0, 0))) ∧ (w.heap.size ≤ s_.2.2) ∧ (w.heap.size ≤ s_.2.2) ∧ (gb215 ≠ s_.2.2) ∧ (s_.2.2 ≠ gb215) ∧ (gb216 ≠ s_.2.2) ∧ (s_.2.2 ≠ gb216) ∧ (Below w.heap.size w w')) ?_ ?_
        rotate_left
        ·intro hJ0_3_9
         refine join_ (σ := Value × Value × Nat) 4 #[true, true, true, false, true, true, true, false, false, true, false] (fun s_ => [(20, s_.1), (24, s_.2.1), (8, .pointer (some ⟨s_.2.2, 0, none⟩))]) (fun s_ w' => (w'.cell? ⟨gb215, 0, none⟩ = some (.slice A0_0 l0_0.length c0_0) ∧ w'.cell? ⟨gb215, 1, none⟩ = some (.slice A0_1 l0_1.length c0_1)) ∧ (Kd.R (Kd.int .i64) 2 w' w.heap.size (fun k_ => some k_ ≠ (s_.2.1 : Value).ownBlock) s_.1 y219) ∧ (Kd.R (Kd.int .i64) 2 w' w.heap.size (fun k_ => some k_ ≠ (s_.1 : Value).ownBlock) s_.2.1 y225) ∧ (w'.heap[gb215]? = some (.cells #[.slice A0_0 l0_0.length c0_0, .slice A0_1 l0_1.length c0_1] 26 (0, 0))) ∧ (w'.heap[gb216]? = some (.cells #[.slice none 0 0, .slice none 0 0] 26 (0, 0))) ∧ (w'.heap[s_.2.2]? = some (.cells #[.slice none 0 0, .slice none 0 0] 26 (0, 0))) ∧ (w.heap.size ≤ s_.2.2) ∧ (w.heap.size ≤ s_.2.2) ∧ (gb215 ≠ s_.2.2) ∧ (s_.2.2 ≠ gb215) ∧ (gb216 ≠ s_.2.2) ∧ (s_.2.2 ≠ gb216) ∧ (Below w.heap.size w w')) ?_ ?_
         rotate_left
         ·intro hJ0_4_9
          refine join_ (σ := Value × Value) 5 #[true, true, true, true, false, true, true, false, false, false, false] (fun s_ => [(20, s_.1), (23, s_.2)]) (fun s_ w' => (w'.cell? ⟨gb215, 0, none⟩ = some (.slice A0_0 l0_0.length c0_0) ∧ w'.cell? ⟨gb215, 1, none⟩ = some (.slice A0_1 l0_1.length c0_1)) ∧ (Kd.R (Kd.int .i64) 2 w' w.heap.size (fun _ => True) s_.2 y222) ∧ (w'.heap[gb215]? = some (.cells #[.slice A0_0 l0_0.length c0_0, .slice A0_1 l0_1.length c0_1] 26 (0, 0))) ∧ (w'.heap[gb216]? = some (.cells #[.slice none 0 0, .slice none 0 0] 26 (0, 0))) ∧ (Below w.heap.size w w')) ?_ ?_
          rotate_left
          ·intro hJ0_3
           refine join_ (σ := Value × Value) 5 #[true, true, true, false, true, true, true, false, false, false, false] (fun s_ => [(20, s_.1), (24, s_.2)]) (fun s_ w' => (w'.cell? ⟨gb215, 0, none⟩ = some (.slice A0_0 l0_0.length c0_0) ∧ w'.cell? ⟨gb215, 1, none⟩ = some (.slice A0_1 l0_1.length c0_1)) ∧ (Kd.R (Kd.int .i64) 2 w' w.heap.size (fun k_ => some k_ ≠ (s_.2 : Value).ownBlock) s_.1 y219) ∧ (Kd.R (Kd.int .i64) 2 w' w.heap.size (fun k_ => some k_ ≠ (s_.1 : Value).ownBlock) s_.2 y225) ∧ (w'.heap[gb215]? = some (.cells #[.slice A0_0 l0_0.length c0_0, .slice A0_1 l0_1.length c0_1] 26 (0, 0))) ∧ (w'.heap[gb216]? = some (.cells #[.slice none 0 0, .slice none 0 0] 26 (0, 0))) ∧ (Below w.heap.size w w')) ?_ ?_
           rotate_left
           ·intro hJ0_4
            refine join_ (σ := Value × Nat) 5 #[true, true, true, false, false, true, true, false, false, true, false] (fun s_ => [(20, s_.1), (8, .pointer (some ⟨s_.2, 0, none⟩))]) (fun s_ w' => (w'.cell? ⟨gb215, 0, none⟩ = some (.slice A0_0 l0_0.length c0_0) ∧ w'.cell? ⟨gb215, 1, none⟩ = some (.slice A0_1 l0_1.length c0_1)) ∧ (Kd.R (Kd.int .i64) 2 w' w.heap.size (fun _ => True) s_.1 y219) ∧ (w'.heap[gb215]? = some (.cells #[.slice A0_0 l0_0.length c0_0, .slice A0_1 l0_1.length c0_1] 26 (0, 0))) ∧ (w'.heap[gb216]? = some (.cells #[.slice none 0 0, .slice none 0 0] 26 (0, 0))) ∧ (w'.heap[s_.2]? = some (.cells #[.slice none 0 0, .slice none 0 0] 26 (0, 0))) ∧ (w.heap.size ≤ s_.2) ∧ (w.heap.size ≤ s_.2) ∧ (gb215 ≠ s_.2) ∧ (s_.2 ≠ gb215) ∧ (gb216 ≠ s_.2) ∧ (s_.2 ≠ gb216) ∧ (Below w.heap.size w w')) ?_ ?_
            rotate_left
            ·intro hJ0_9
             refine join_ (σ := Value × Nat) 5 #[false, true, true, false, true, true, true, false, false, true, false] (fun s_ => [(24, s_.1), (8, .pointer (some ⟨s_.2, 0, none⟩))]) (fun s_ w' => (w'.cell? ⟨gb215, 0, none⟩ = some (.slice A0_0 l0_0.length c0_0) ∧ w'.cell? ⟨gb215, 1, none⟩ = some (.slice A0_1 l0_1.length c0_1)) ∧ (Kd.R (Kd.int .i64) 2 w' w.heap.size (fun _ => True) s_.1 y225) ∧ (w'.heap[gb215]? = some (.cells #[.slice A0_0 l0_0.length c0_0, .slice A0_1 l0_1.length c0_1] 26 (0, 0))) ∧ (w'.heap[gb216]? = some (.cells #[.slice none 0 0, .slice none 0 0] 26 (0, 0))) ∧ (w'.heap[s_.2]? = some (.cells #[.slice none 0 0, .slice none 0 0] 26 (0, 0))) ∧ (w.heap.size ≤ s_.2) ∧ (w.heap.size ≤ s_.2) ∧ (gb215 ≠ s_.2) ∧ (s_.2 ≠ gb215) ∧ (gb216 ≠ s_.2) ∧ (s_.2 ≠ gb216) ∧ (Below w.heap.size w w')) ?_ ?_
             rotate_left
             ·intro hJ4_9
              refine join_ (σ := Value) 6 #[true, true, true, false, false, true, true, false, false, false, false] (fun s_ => [(20, s_)]) (fun s_ w' => (w'.cell? ⟨gb215, 0, none⟩ = some (.slice A0_0 l0_0.length c0_0) ∧ w'.cell? ⟨gb215, 1, none⟩ = some (.slice A0_1 l0_1.length c0_1)) ∧ (Kd.R (Kd.int .i64) 2 w' w.heap.size (fun _ => True) s_ y219) ∧ (w'.heap[gb215]? = some (.cells #[.slice A0_0 l0_0.length c0_0, .slice A0_1 l0_1.length c0_1] 26 (0, 0))) ∧ (w'.heap[gb216]? = some (.cells #[.slice none 0 0, .slice none 0 0] 26 (0, 0))) ∧ (Below w.heap.size w w')) ?_ ?_
              rotate_left
              ·intro hJ0
               refine join_ (σ := Value) 6 #[false, true, true, false, true, true, true, false, false, false, false] (fun s_ => [(24, s_)]) (fun s_ w' => (w'.cell? ⟨gb215, 0, none⟩ = some (.slice A0_0 l0_0.length c0_0) ∧ w'.cell? ⟨gb215, 1, none⟩ = some (.slice A0_1 l0_1.length c0_1)) ∧ (Kd.R (Kd.int .i64) 2 w' w.heap.size (fun _ => True) s_ y225) ∧ (w'.heap[gb215]? = some (.cells #[.slice A0_0 l0_0.length c0_0, .slice A0_1 l0_1.length c0_1] 26 (0, 0))) ∧ (w'.heap[gb216]? = some (.cells #[.slice none 0 0, .slice none 0 0] 26 (0, 0))) ∧ (Below w.heap.size w w')) ?_ ?_
               rotate_left
               ·intro hJ4
                refine join_ (σ := Nat) 6 #[false, true, true, false, false, true, true, false, false, true, false] (fun s_ => [(8, .pointer (some ⟨s_, 0, none⟩))]) (fun s_ w' => (w'.cell? ⟨gb215, 0, none⟩ = some (.slice A0_0 l0_0.length c0_0) ∧ w'.cell? ⟨gb215, 1, none⟩ = some (.slice A0_1 l0_1.length c0_1)) ∧ (w'.heap[gb215]? = some (.cells #[.slice A0_0 l0_0.length c0_0, .slice A0_1 l0_1.length c0_1] 26 (0, 0))) ∧ (w'.heap[gb216]? = some (.cells #[.slice none 0 0, .slice none 0 0] 26 (0, 0))) ∧ (w'.heap[s_]? = some (.cells #[.slice none 0 0, .slice none 0 0] 26 (0, 0))) ∧ (w.heap.size ≤ s_) ∧ (w.heap.size ≤ s_) ∧ (gb215 ≠ s_) ∧ (s_ ≠ gb215) ∧ (gb216 ≠ s_) ∧ (s_ ≠ gb216) ∧ (Below w.heap.size w w')) ?_ ?_
                rotate_left
                ·intro hJ9
                 refine three_ (i := 0) (j := 4) (k := 9) (Ni := some 20) (Nj := some 24) (Nk := some 8) #[true, true, true, false, false, true, true, false, false, false, false] #[false, true, true, false, true, true, true, false, false, false, false] #[false, true, true, false, false, true, true, false, false, true, false] rfl rfl rfl rfl rfl rfl (three_of HT_.out (by kernel_rfl)) (by decide) (by decide) (by decide) (fun K hK => ?_) (fun K hK => ?_) (fun K hK => ?_)
                 ·skip
                  refine Kd.R_lit_step (Kd.int .i64) _ 2 ?hg (N := 20) ?hd (xs := ([] : List Int)) (inner := []) (ok := fun _ => True) (okp := fun _ => True) ?hr ?hp (fun _ hk => hk) trivial (Below.refl _ _) (Nat.le_refl _) (by simp) ?_; (case hd => rfl); (case hg => rfl); (case hr => first | (go_simp; done) | (go_simp; rfl)); (case hp => exact (Reps.none _ _))
                  intro v220 w22 ho23 hb hg_ hnew_
                  clear hg_ hnew_
                  (first | rw [← Ny219.out] at ho23 | (simp only [Int.reduceToNat] at ho23; rw [← Ny219.out] at ho23))
                  have HO221 := rL_ ho23 HB; replace BK215 := bB_ BK215 hb; replace BK216 := bB_ BK216 hb; replace HB := bS_ HB hb; clear hb ho23
                  refine hK.out _ _ ⟨(blk_cell BK215.out 0).trans rfl, (blk_cell BK215.out 1).trans rfl⟩ (fun hHeld => ?_)
                  clear hK K
                  refine nS_ (some 20) ?_
                  exact norm_ (by simp only [putAll, Act.put, List.setIfInBounds_toArray, List.set_cons_zero, List.set_cons_succ] <;> rfl) (hJ0 (v220) _ ⟨hHeld, (rT_ HO221), (bT_ BK215), (bT_ BK216), sABelo_5⟩)
                 ·skip
                  refine Kd.R_lit_step (Kd.int .i64) _ 2 ?hg (N := 24) ?hd (xs := ([] : List Int)) (inner := []) (ok := fun _ => True) (okp := fun _ => True) ?hr ?hp (fun _ hk => hk) trivial (Below.refl _ _) (Nat.le_refl _) (by simp) ?_; (case hd => rfl); (case hg => rfl); (case hr => first | (go_simp; done) | (go_simp; rfl)); (case hp => exact (Reps.none _ _))
                  intro v226 w22 ho23 hb hg_ hnew_
                  clear hg_ hnew_
                  (first | rw [← Ny225.out] at ho23 | (simp only [Int.reduceToNat] at ho23; rw [← Ny225.out] at ho23))
                  have HO227 := rL_ ho23 HB; replace BK215 := bB_ BK215 hb; replace BK216 := bB_ BK216 hb; replace HB := bS_ HB hb; clear hb ho23
                  refine hK.out _ _ ⟨(blk_cell BK215.out 0).trans rfl, (blk_cell BK215.out 1).trans rfl⟩ (fun hHeld => ?_)
                  clear hK K
                  refine nS_ (some 24) ?_
                  exact norm_ (by simp only [putAll, Act.put, List.setIfInBounds_toArray, List.set_cons_zero, List.set_cons_succ] <;> rfl) (hJ4 (v226) _ ⟨hHeld, (rT_ HO227), (bT_ BK215), (bT_ BK216), sABelo_5⟩)
                 ·skip
                  refine box_step ?hg (N := 8) ?hd (cs := #[.slice none 0 0, .slice none 0 0]) (t := 26) ?hr ?_; (case hd => rfl); (case hg => rfl); (case hr => first | (go_simp; done) | (go_simp; rfl))
                  intro gb231 hg w22 hbox hb
                  have BK231 := Aside0.mk (hbox)
                  have GW231 := gE_ HB hg; have GE231 := gE_ HB hg; replace HB := bS_ HB hb; have NB215_231 := nL_ BK215 hg; have NB231_215 := nG_ BK215 hg; replace BK215 := bB_ BK215 hb; have NB216_231 := nL_ BK216 hg; have NB231_216 := nG_ BK216 hg; replace BK216 := bB_ BK216 hb; clear hb hbox hg
                  refine hK.out _ _ ⟨(blk_cell BK215.out 0).trans rfl, (blk_cell BK215.out 1).trans rfl⟩ (fun hHeld => ?_)
                  clear hK K
                  refine nS_ (some 8) ?_
                  exact norm_ (by simp only [putAll, Act.put, List.setIfInBounds_toArray, List.set_cons_zero, List.set_cons_succ] <;> rfl) (hJ9 (gb231) _ ⟨hHeld, (bT_ BK215), (bT_ BK216), (bT_ BK231), GW231.out, GE231.out, NB215_231.out, NB231_215.out, NB216_231.out, NB231_216.out, sABelo_5⟩)
                ·skip
                 rintro gb231 w23 ⟨hS_, h0_, h1_, h2_, h3_, h4_, h5_, h6_, h7_, h8_, h9_⟩
                 try dsimp only at h0_ h1_ h2_ h3_ h4_ h5_ h6_ h7_ h8_ h9_
                 replace BK215 := Aside0.mk h0_; replace BK216 := Aside0.mk h1_; have BK231 := Aside0.mk h2_; have GW231 := Aside0.mk h3_; have GE231 := Aside0.mk h4_; have NB215_231 := Aside0.mk h5_; have NB231_215 := Aside0.mk h6_; have NB216_231 := Aside0.mk h7_; have NB231_216 := Aside0.mk h8_; replace HB := Aside0.mk h9_; clear h0_ h1_ h2_ h3_ h4_ h5_ h6_ h7_ h8_ h9_
                 have hHeld : w23.cell? ⟨gb215, 0, none⟩ = some (.slice A0_0 l0_0.length c0_0) ∧ w23.cell? ⟨gb215, 1, none⟩ = some (.slice A0_1 l0_1.length c0_1) := hS_
                 refine norm_ (a' := ?_) ?_ ?_
                 rotate_left
                 ·simp only [putAll, Act.put, List.setIfInBounds_toArray, List.set_cons_zero, List.set_cons_succ]
                  rfl
                 refine two_ (i := 0) (j := 4) (Ni := some 20) (Nj := some 24) #[true, true, true, false, false, true, true, false, false, true, false] #[false, true, true, false, true, true, true, false, false, true, false] rfl rfl rfl rfl (two_of HT_.out (by kernel_rfl)) (by decide) (by decide) (fun K hK => ?_) (fun K hK => ?_)
                 ·skip
                  refine Kd.R_lit_step (Kd.int .i64) _ 2 ?hg (N := 20) ?hd (xs := ([] : List Int)) (inner := []) (ok := fun _ => True) (okp := fun _ => True) ?hr ?hp (fun _ hk => hk) trivial (Below.refl _ _) (Nat.le_refl _) (by simp) ?_; (case hd => rfl); (case hg => rfl); (case hr => first | (go_simp; done) | (go_simp; rfl)); (case hp => exact (Reps.none _ _))
                  intro v220 w24 ho25 hb hg_ hnew_
                  clear hg_ hnew_
                  (first | rw [← Ny219.out] at ho25 | (simp only [Int.reduceToNat] at ho25; rw [← Ny219.out] at ho25))
                  have HO221 := rL_ ho25 HB; replace BK215 := bB_ BK215 hb; replace BK216 := bB_ BK216 hb; replace BK231 := bB_ BK231 hb; replace HB := bS_ HB hb; clear hb ho25
                  refine hK.out _ _ ⟨(blk_cell BK215.out 0).trans rfl, (blk_cell BK215.out 1).trans rfl⟩ (fun hHeld => ?_)
                  clear hK K
                  refine nS_ (some 20) ?_
                  exact norm_ (by simp only [putAll, Act.put, List.setIfInBounds_toArray, List.set_cons_zero, List.set_cons_succ] <;> rfl) (hJ0_9 (v220, gb231) _ ⟨hHeld, (rT_ HO221), (bT_ BK215), (bT_ BK216), (bT_ BK231), GW231.out, GE231.out, NB215_231.out, NB231_215.out, NB216_231.out, NB231_216.out, sABelo_5⟩)
                 ·skip
                  refine Kd.R_lit_step (Kd.int .i64) _ 2 ?hg (N := 24) ?hd (xs := ([] : List Int)) (inner := []) (ok := fun _ => True) (okp := fun _ => True) ?hr ?hp (fun _ hk => hk) trivial (Below.refl _ _) (Nat.le_refl _) (by simp) ?_; (case hd => rfl); (case hg => rfl); (case hr => first | (go_simp; done) | (go_simp; rfl)); (case hp => exact (Reps.none _ _))
                  intro v226 w24 ho25 hb hg_ hnew_
                  clear hg_ hnew_
                  (first | rw [← Ny225.out] at ho25 | (simp only [Int.reduceToNat] at ho25; rw [← Ny225.out] at ho25))
                  have HO227 := rL_ ho25 HB; replace BK215 := bB_ BK215 hb; replace BK216 := bB_ BK216 hb; replace BK231 := bB_ BK231 hb; replace HB := bS_ HB hb; clear hb ho25
                  refine hK.out _ _ ⟨(blk_cell BK215.out 0).trans rfl, (blk_cell BK215.out 1).trans rfl⟩ (fun hHeld => ?_)
                  clear hK K
                  refine nS_ (some 24) ?_
                  exact norm_ (by simp only [putAll, Act.put, List.setIfInBounds_toArray, List.set_cons_zero, List.set_cons_succ] <;> rfl) (hJ4_9 (v226, gb231) _ ⟨hHeld, (rT_ HO227), (bT_ BK215), (bT_ BK216), (bT_ BK231), GW231.out, GE231.out, NB215_231.out, NB231_215.out, NB216_231.out, NB231_216.out, sABelo_5⟩)
               ·skip
                rintro v226 w24 ⟨hS_, h0_, h1_, h2_, h3_⟩
                try dsimp only at h0_ h1_ h2_ h3_
                have HO227 := Aside0.mk h0_; replace BK215 := Aside0.mk h1_; replace BK216 := Aside0.mk h2_; replace HB := Aside0.mk h3_; clear h0_ h1_ h2_ h3_
                have hHeld : w24.cell? ⟨gb215, 0, none⟩ = some (.slice A0_0 l0_0.length c0_0) ∧ w24.cell? ⟨gb215, 1, none⟩ = some (.slice A0_1 l0_1.length c0_1) := hS_
                refine norm_ (a' := ?_) ?_ ?_
                rotate_left
                ·simp only [putAll, Act.put, List.setIfInBounds_toArray, List.set_cons_zero, List.set_cons_succ]
                 rfl
                refine two_ (i := 0) (j := 9) (Ni := some 20) (Nj := some 8) #[true, true, true, false, true, true, true, false, false, false, false] #[false, true, true, false, true, true, true, false, false, true, false] rfl rfl rfl rfl (two_of HT_.out (by kernel_rfl)) (by decide) (by decide) (fun K hK => ?_) (fun K hK => ?_)
                ·skip
                 refine Kd.R_lit_step (Kd.int .i64) _ 2 ?hg (N := 20) ?hd (xs := ([] : List Int)) (inner := []) (ok := fun _ => True) (okp := fun _ => True) ?hr ?hp (fun _ hk => hk) trivial (Below.refl _ _) (Nat.le_refl _) (by simp) ?_; (case hd => rfl); (case hg => rfl); (case hr => first | (go_simp; done) | (go_simp; rfl)); (case hp => exact (Reps.none _ _))
                 intro v220 w25 ho26 hb hg_ hnew_
                 clear hg_ hnew_
                 (first | rw [← Ny219.out] at ho26 | (simp only [Int.reduceToNat] at ho26; rw [← Ny219.out] at ho26))
                 have HO221 := rL_ (rN_ ho26 HO227) HB
                 replace HO227 := rE_ HO227 ho26 hb; replace BK215 := bB_ BK215 hb; replace BK216 := bB_ BK216 hb; replace HB := bS_ HB hb; clear hb ho26
                 refine hK.out _ _ ⟨(blk_cell BK215.out 0).trans rfl, (blk_cell BK215.out 1).trans rfl⟩ (fun hHeld => ?_)
                 clear hK K
                 refine nS_ (some 20) ?_
                 exact norm_ (by simp only [putAll, Act.put, List.setIfInBounds_toArray, List.set_cons_zero, List.set_cons_succ] <;> rfl) (hJ0_4 (v220, v226) _ ⟨hHeld, (rM_ HO221), (rM_ HO227), (bT_ BK215), (bT_ BK216), sABelo_5⟩)
                ·skip
                 refine box_step ?hg (N := 8) ?hd (cs := #[.slice none 0 0, .slice none 0 0]) (t := 26) ?hr ?_; (case hd => rfl); (case hg => rfl); (case hr => first | (go_simp; done) | (go_simp; rfl))
                 intro gb231 hg w25 hbox hb
                 replace HO227 := rB_ HO227 hb
                 have BK231 := Aside0.mk (hbox)
                 have GW231 := gE_ HB hg; have GE231 := gE_ HB hg; replace HB := bS_ HB hb; have NB215_231 := nL_ BK215 hg; have NB231_215 := nG_ BK215 hg; replace BK215 := bB_ BK215 hb; have NB216_231 := nL_ BK216 hg; have NB231_216 := nG_ BK216 hg; replace BK216 := bB_ BK216 hb; clear hb hbox hg
                 refine hK.out _ _ ⟨(blk_cell BK215.out 0).trans rfl, (blk_cell BK215.out 1).trans rfl⟩ (fun hHeld => ?_)
                 clear hK K
                 refine nS_ (some 8) ?_
                 exact norm_ (by simp only [putAll, Act.put, List.setIfInBounds_toArray, List.set_cons_zero, List.set_cons_succ] <;> rfl) (hJ4_9 (v226, gb231) _ ⟨hHeld, (rT_ HO227), (bT_ BK215), (bT_ BK216), (bT_ BK231), GW231.out, GE231.out, NB215_231.out, NB231_215.out, NB216_231.out, NB231_216.out, sABelo_5⟩)
              ·skip
               rintro v220 w24 ⟨hS_, h0_, h1_, h2_, h3_⟩
               try dsimp only at h0_ h1_ h2_ h3_
               have HO221 := Aside0.mk h0_; replace BK215 := Aside0.mk h1_; replace BK216 := Aside0.mk h2_; replace HB := Aside0.mk h3_; clear h0_ h1_ h2_ h3_
               have hHeld : w24.cell? ⟨gb215, 0, none⟩ = some (.slice A0_0 l0_0.length c0_0) ∧ w24.cell? ⟨gb215, 1, none⟩ = some (.slice A0_1 l0_1.length c0_1) := hS_
               refine norm_ (a' := ?_) ?_ ?_
               rotate_left
               ·simp only [putAll, Act.put, List.setIfInBounds_toArray, List.set_cons_zero, List.set_cons_succ]
                rfl
               refine three_ (i := 3) (j := 4) (k := 9) (Ni := some 23) (Nj := some 24) (Nk := some 8) #[true, true, true, true, false, true, true, false, false, false, false] #[true, true, true, false, true, true, true, false, false, false, false] #[true, true, true, false, false, true, true, false, false, true, false] rfl rfl rfl rfl rfl rfl (three_of HT_.out (by kernel_rfl)) (by decide) (by decide) (by decide) (fun K hK => ?_) (fun K hK => ?_) (fun K hK => ?_)
               ·skip
                refine Kd.R_append_rows_step (Kd.int .i64) (w0 := w) w.heap.size (by rfl) (.tmp 20) (.tmp 22) 22 2 (.int .i64 0) 8 rfl Try.underlying22 info2 rfl (by decide) (by omega) v220 y219 l0_0 _ _ _ (fun _ => True) (fun _ => False) rfl rfl ?aO ?aR (fun _ _ h => h) (fun _ h => h.elim) ?aF ?aB ?aS ?aL ?_
                (case aR => repeat (first | exact (Kd.C_below HR0_0.out HB.out) | (with_reducible refine Kd.C_alloc ?_ _) | (with_reducible refine Kd.C_drewN ?_ _) | (with_reducible refine Kd.C_drew ?_)))
                (case aB => exact sABelo_5)
                (case aF => exact (fun _ _ => trivial))
                (case aO => exact (rT_ HO221))
                (case aS => exact (below_size sABelo_5))
                (case aL => have := LMc19.out; omega)
                intro v223 w25 ho hb hg hat
                rw [← Ny222.out] at ho
                replace BK215 := Aside0.mk (blk_grown (g := gb215) (o := .cells #[.slice A0_0 l0_0.length c0_0, .slice A0_1 l0_1.length c0_1] 26 (0, 0)) (bT_ BK215) hg (Kd.R_ne HO221.out BK215.out (by decide)))
                replace BK216 := Aside0.mk (blk_grown (g := gb216) (o := .cells #[.slice none 0 0, .slice none 0 0] 26 (0, 0)) (bT_ BK216) hg (Kd.R_ne HO221.out BK216.out (by decide)))
                replace HB := Aside0.mk (hb)
                have HO224 := Aside0.mk (ho)
                clear HO221 ho hb hg hat
                refine hK.out _ _ ⟨(blk_cell BK215.out 0).trans rfl, (blk_cell BK215.out 1).trans rfl⟩ (fun hHeld => ?_)
                clear hK K
                refine nS_ (some 23) ?_
                exact norm_ (by simp only [putAll, Act.put, List.setIfInBounds_toArray, List.set_cons_zero, List.set_cons_succ] <;> rfl) (hJ0_3 (v220, v223) _ ⟨hHeld, (rT_ HO224), (bT_ BK215), (bT_ BK216), sABelo_5⟩)
               ·skip
                refine Kd.R_lit_step (Kd.int .i64) _ 2 ?hg (N := 24) ?hd (xs := ([] : List Int)) (inner := []) (ok := fun _ => True) (okp := fun _ => True) ?hr ?hp (fun _ hk => hk) trivial (Below.refl _ _) (Nat.le_refl _) (by simp) ?_; (case hd => rfl); (case hg => rfl); (case hr => first | (go_simp; done) | (go_simp; rfl)); (case hp => exact (Reps.none _ _))
                intro v226 w25 ho26 hb hg_ hnew_
                clear hg_ hnew_
                (first | rw [← Ny225.out] at ho26 | (simp only [Int.reduceToNat] at ho26; rw [← Ny225.out] at ho26))
                have HO227 := rL_ (rN_ ho26 HO221) HB
                replace HO221 := rE_ HO221 ho26 hb; replace BK215 := bB_ BK215 hb; replace BK216 := bB_ BK216 hb; replace HB := bS_ HB hb; clear hb ho26
                refine hK.out _ _ ⟨(blk_cell BK215.out 0).trans rfl, (blk_cell BK215.out 1).trans rfl⟩ (fun hHeld => ?_)
                clear hK K
                refine nS_ (some 24) ?_
                exact norm_ (by simp only [putAll, Act.put, List.setIfInBounds_toArray, List.set_cons_zero, List.set_cons_succ] <;> rfl) (hJ0_4 (v220, v226) _ ⟨hHeld, (rM_ HO221), (rM_ HO227), (bT_ BK215), (bT_ BK216), sABelo_5⟩)
               ·skip
                refine box_step ?hg (N := 8) ?hd (cs := #[.slice none 0 0, .slice none 0 0]) (t := 26) ?hr ?_; (case hd => rfl); (case hg => rfl); (case hr => first | (go_simp; done) | (go_simp; rfl))
                intro gb231 hg w25 hbox hb
                replace HO221 := rB_ HO221 hb
                have BK231 := Aside0.mk (hbox)
                have GW231 := gE_ HB hg; have GE231 := gE_ HB hg; replace HB := bS_ HB hb; have NB215_231 := nL_ BK215 hg; have NB231_215 := nG_ BK215 hg; replace BK215 := bB_ BK215 hb; have NB216_231 := nL_ BK216 hg; have NB231_216 := nG_ BK216 hg; replace BK216 := bB_ BK216 hb; clear hb hbox hg
                refine hK.out _ _ ⟨(blk_cell BK215.out 0).trans rfl, (blk_cell BK215.out 1).trans rfl⟩ (fun hHeld => ?_)
                clear hK K
                refine nS_ (some 8) ?_
                exact norm_ (by simp only [putAll, Act.put, List.setIfInBounds_toArray, List.set_cons_zero, List.set_cons_succ] <;> rfl) (hJ0_9 (v220, gb231) _ ⟨hHeld, (rT_ HO221), (bT_ BK215), (bT_ BK216), (bT_ BK231), GW231.out, GE231.out, NB215_231.out, NB231_215.out, NB216_231.out, NB231_216.out, sABelo_5⟩)
             ·skip
              rintro ⟨v226, gb231⟩ w25 ⟨hS_, h0_, h1_, h2_, h3_, h4_, h5_, h6_, h7_, h8_, h9_, h10_⟩
              try dsimp only at h0_ h1_ h2_ h3_ h4_ h5_ h6_ h7_ h8_ h9_ h10_
              have HO227 := Aside0.mk h0_; replace BK215 := Aside0.mk h1_; replace BK216 := Aside0.mk h2_; have BK231 := Aside0.mk h3_; have GW231 := Aside0.mk h4_; have GE231 := Aside0.mk h5_; have NB215_231 := Aside0.mk h6_; have NB231_215 := Aside0.mk h7_; have NB216_231 := Aside0.mk h8_; have NB231_216 := Aside0.mk h9_; replace HB := Aside0.mk h10_; clear h0_ h1_ h2_ h3_ h4_ h5_ h6_ h7_ h8_ h9_ h10_
              have hHeld : w25.cell? ⟨gb215, 0, none⟩ = some (.slice A0_0 l0_0.length c0_0) ∧ w25.cell? ⟨gb215, 1, none⟩ = some (.slice A0_1 l0_1.length c0_1) := hS_
              refine norm_ (a' := ?_) ?_ ?_
              rotate_left
              ·simp only [putAll, Act.put, List.setIfInBounds_toArray, List.set_cons_zero, List.set_cons_succ]
               rfl
              refine one_ (i := 0) (N := some 20) #[true, true, true, false, true, true, true, false, false, true, false] rfl rfl (one_of HT_.out (by kernel_rfl)) (by decide) (fun K hK => ?_)
              refine Kd.R_lit_step (Kd.int .i64) _ 2 ?hg (N := 20) ?hd (xs := ([] : List Int)) (inner := []) (ok := fun _ => True) (okp := fun _ => True) ?hr ?hp (fun _ hk => hk) trivial (Below.refl _ _) (Nat.le_refl _) (by simp) ?_; (case hd => rfl); (case hg => rfl); (case hr => first | (go_simp; done) | (go_simp; rfl)); (case hp => exact (Reps.none _ _))
              intro v220 w26 ho27 hb hg_ hnew_
              clear hg_ hnew_
              (first | rw [← Ny219.out] at ho27 | (simp only [Int.reduceToNat] at ho27; rw [← Ny219.out] at ho27))
              have HO221 := rL_ (rN_ ho27 HO227) HB
              replace HO227 := rE_ HO227 ho27 hb; replace BK215 := bB_ BK215 hb; replace BK216 := bB_ BK216 hb; replace BK231 := bB_ BK231 hb; replace HB := bS_ HB hb; clear hb ho27
              refine hK.out _ _ ⟨(blk_cell BK215.out 0).trans rfl, (blk_cell BK215.out 1).trans rfl⟩ (fun hHeld => ?_)
              clear hK K
              refine nS_ (some 20) ?_
              exact norm_ (by simp only [putAll, Act.put, List.setIfInBounds_toArray, List.set_cons_zero, List.set_cons_succ] <;> rfl) (hJ0_4_9 (v220, v226, gb231) _ ⟨hHeld, (rM_ HO221), (rM_ HO227), (bT_ BK215), (bT_ BK216), (bT_ BK231), GW231.out, GE231.out, NB215_231.out, NB231_215.out, NB216_231.out, NB231_216.out, sABelo_5⟩)
            ·skip
             rintro ⟨v220, gb231⟩ w25 ⟨hS_, h0_, h1_, h2_, h3_, h4_, h5_, h6_, h7_, h8_, h9_, h10_⟩
             try dsimp only at h0_ h1_ h2_ h3_ h4_ h5_ h6_ h7_ h8_ h9_ h10_
             have HO221 := Aside0.mk h0_; replace BK215 := Aside0.mk h1_; replace BK216 := Aside0.mk h2_; have BK231 := Aside0.mk h3_; have GW231 := Aside0.mk h4_; have GE231 := Aside0.mk h5_; have NB215_231 := Aside0.mk h6_; have NB231_215 := Aside0.mk h7_; have NB216_231 := Aside0.mk h8_; have NB231_216 := Aside0.mk h9_; replace HB := Aside0.mk h10_; clear h0_ h1_ h2_ h3_ h4_ h5_ h6_ h7_ h8_ h9_ h10_
             have hHeld : w25.cell? ⟨gb215, 0, none⟩ = some (.slice A0_0 l0_0.length c0_0) ∧ w25.cell? ⟨gb215, 1, none⟩ = some (.slice A0_1 l0_1.length c0_1) := hS_
             refine norm_ (a' := ?_) ?_ ?_
             rotate_left
             ·simp only [putAll, Act.put, List.setIfInBounds_toArray, List.set_cons_zero, List.set_cons_succ]
              rfl
             refine two_ (i := 3) (j := 4) (Ni := some 23) (Nj := some 24) #[true, true, true, true, false, true, true, false, false, true, false] #[true, true, true, false, true, true, true, false, false, true, false] rfl rfl rfl rfl (two_of HT_.out (by kernel_rfl)) (by decide) (by decide) (fun K hK => ?_) (fun K hK => ?_)
             ·skip
              refine Kd.R_append_rows_step (Kd.int .i64) (w0 := w) w.heap.size (by rfl) (.tmp 20) (.tmp 22) 22 2 (.int .i64 0) 8 rfl Try.underlying22 info2 rfl (by decide) (by omega) v220 y219 l0_0 _ _ _ (fun _ => True) (fun _ => False) rfl rfl ?aO ?aR (fun _ _ h => h) (fun _ h => h.elim) ?aF ?aB ?aS ?aL ?_
              (case aR => repeat (first | exact (Kd.C_below HR0_0.out HB.out) | (with_reducible refine Kd.C_alloc ?_ _) | (with_reducible refine Kd.C_drewN ?_ _) | (with_reducible refine Kd.C_drew ?_)))
              (case aB => exact sABelo_5)
              (case aF => exact (fun _ _ => trivial))
              (case aO => exact (rT_ HO221))
              (case aS => exact (below_size sABelo_5))
              (case aL => have := LMc19.out; omega)
              intro v223 w26 ho hb hg hat
              rw [← Ny222.out] at ho
              replace BK215 := Aside0.mk (blk_grown (g := gb215) (o := .cells #[.slice A0_0 l0_0.length c0_0, .slice A0_1 l0_1.length c0_1] 26 (0, 0)) (bT_ BK215) hg (Kd.R_ne HO221.out BK215.out (by decide)))
              replace BK216 := Aside0.mk (blk_grown (g := gb216) (o := .cells #[.slice none 0 0, .slice none 0 0] 26 (0, 0)) (bT_ BK216) hg (Kd.R_ne HO221.out BK216.out (by decide)))
              replace BK231 := Aside0.mk (blk_grown (g := gb231) (o := .cells #[.slice none 0 0, .slice none 0 0] 26 (0, 0)) (bT_ BK231) hg (Kd.R_ne HO221.out BK231.out (by decide)))
              replace HB := Aside0.mk (hb)
              have HO224 := Aside0.mk (ho)
              clear HO221 ho hb hg hat
              refine hK.out _ _ ⟨(blk_cell BK215.out 0).trans rfl, (blk_cell BK215.out 1).trans rfl⟩ (fun hHeld => ?_)
              clear hK K
              refine nS_ (some 23) ?_
              exact norm_ (by simp only [putAll, Act.put, List.setIfInBounds_toArray, List.set_cons_zero, List.set_cons_succ] <;> rfl) (hJ0_3_9 (v220, v223, gb231) _ ⟨hHeld, (rT_ HO224), (bT_ BK215), (bT_ BK216), (bT_ BK231), GW231.out, GE231.out, NB215_231.out, NB231_215.out, NB216_231.out, NB231_216.out, sABelo_5⟩)
             ·skip
              refine Kd.R_lit_step (Kd.int .i64) _ 2 ?hg (N := 24) ?hd (xs := ([] : List Int)) (inner := []) (ok := fun _ => True) (okp := fun _ => True) ?hr ?hp (fun _ hk => hk) trivial (Below.refl _ _) (Nat.le_refl _) (by simp) ?_; (case hd => rfl); (case hg => rfl); (case hr => first | (go_simp; done) | (go_simp; rfl)); (case hp => exact (Reps.none _ _))
              intro v226 w26 ho27 hb hg_ hnew_
              clear hg_ hnew_
              (first | rw [← Ny225.out] at ho27 | (simp only [Int.reduceToNat] at ho27; rw [← Ny225.out] at ho27))
              have HO227 := rL_ (rN_ ho27 HO221) HB
              replace HO221 := rE_ HO221 ho27 hb; replace BK215 := bB_ BK215 hb; replace BK216 := bB_ BK216 hb; replace BK231 := bB_ BK231 hb; replace HB := bS_ HB hb; clear hb ho27
              refine hK.out _ _ ⟨(blk_cell BK215.out 0).trans rfl, (blk_cell BK215.out 1).trans rfl⟩ (fun hHeld => ?_)
              clear hK K
              refine nS_ (some 24) ?_
              exact norm_ (by simp only [putAll, Act.put, List.setIfInBounds_toArray, List.set_cons_zero, List.set_cons_succ] <;> rfl) (hJ0_4_9 (v220, v226, gb231) _ ⟨hHeld, (rM_ HO221), (rM_ HO227), (bT_ BK215), (bT_ BK216), (bT_ BK231), GW231.out, GE231.out, NB215_231.out, NB231_215.out, NB216_231.out, NB231_216.out, sABelo_5⟩)
           ·skip
            rintro ⟨v220, v226⟩ w26 ⟨hS_, h0_, h1_, h2_, h3_, h4_⟩
            try dsimp only at h0_ h1_ h2_ h3_ h4_
            have HO221 := Aside0.mk h0_; have HO227 := Aside0.mk h1_; replace BK215 := Aside0.mk h2_; replace BK216 := Aside0.mk h3_; replace HB := Aside0.mk h4_; clear h0_ h1_ h2_ h3_ h4_
            have hHeld : w26.cell? ⟨gb215, 0, none⟩ = some (.slice A0_0 l0_0.length c0_0) ∧ w26.cell? ⟨gb215, 1, none⟩ = some (.slice A0_1 l0_1.length c0_1) := hS_
            refine norm_ (a' := ?_) ?_ ?_
            rotate_left
            ·simp only [putAll, Act.put, List.setIfInBounds_toArray, List.set_cons_zero, List.set_cons_succ]
             rfl
            refine two_ (i := 3) (j := 9) (Ni := some 23) (Nj := some 8) #[true, true, true, true, true, true, true, false, false, false, false] #[true, true, true, false, true, true, true, false, false, true, false] rfl rfl rfl rfl (two_of HT_.out (by kernel_rfl)) (by decide) (by decide) (fun K hK => ?_) (fun K hK => ?_)
            ·skip
             refine Kd.R_append_rows_step (Kd.int .i64) (w0 := w) w.heap.size (by rfl) (.tmp 20) (.tmp 22) 22 2 (.int .i64 0) 8 rfl Try.underlying22 info2 rfl (by decide) (by omega) v220 y219 l0_0 _ _ _ (fun k_ => some k_ ≠ (v226 : Value).ownBlock) (fun _ => False) rfl rfl ?aO ?aR (fun _ _ h => h) (fun _ h => h.elim) ?aF ?aB ?aS ?aL ?_
             (case aR => repeat (first | exact (Kd.C_below HR0_0.out HB.out) | (with_reducible refine Kd.C_alloc ?_ _) | (with_reducible refine Kd.C_drewN ?_ _) | (with_reducible refine Kd.C_drew ?_)))
             (case aB => exact sABelo_5)
             (case aF => exact (fun k_ hk => Kd.fresh' (rLt_ HO227) k_ hk))
             (case aO => exact (rT_ HO221))
             (case aS => exact (below_size sABelo_5))
             (case aL => have := LMc19.out; omega)
             intro v223 w27 ho hb hg hat
             rw [← Ny222.out] at ho
             replace BK215 := Aside0.mk (blk_grown (g := gb215) (o := .cells #[.slice A0_0 l0_0.length c0_0, .slice A0_1 l0_1.length c0_1] 26 (0, 0)) (bT_ BK215) hg (Kd.R_ne HO221.out BK215.out (by decide)))
             replace BK216 := Aside0.mk (blk_grown (g := gb216) (o := .cells #[.slice none 0 0, .slice none 0 0] 26 (0, 0)) (bT_ BK216) hg (Kd.R_ne HO221.out BK216.out (by decide)))
             replace HO227 := Aside0.mk (Kd.R_after (ok := (fun _ => True)) (rM_ HO227 (fun _ hk => ⟨trivial, hk⟩)) hg hat)
             replace HB := Aside0.mk (hb)
             have HO224 := Aside0.mk (ho)
             clear HO221 ho hb hg hat
             refine hK.out _ _ ⟨(blk_cell BK215.out 0).trans rfl, (blk_cell BK215.out 1).trans rfl⟩ (fun hHeld => ?_)
             clear hK K
             refine nS_ (some 23) ?_
             exact norm_ (by simp only [putAll, Act.put, List.setIfInBounds_toArray, List.set_cons_zero, List.set_cons_succ] <;> rfl) (hJ0_3_4 (v220, v223, v226) _ ⟨hHeld, (rT_ HO224), (rM_ HO227), (bT_ BK215), (bT_ BK216), sABelo_5⟩)
            ·skip
             refine box_step ?hg (N := 8) ?hd (cs := #[.slice none 0 0, .slice none 0 0]) (t := 26) ?hr ?_; (case hd => rfl); (case hg => rfl); (case hr => first | (go_simp; done) | (go_simp; rfl))
             intro gb231 hg w27 hbox hb
             replace HO221 := rB_ HO221 hb; replace HO227 := rB_ HO227 hb
             have BK231 := Aside0.mk (hbox)
             have GW231 := gE_ HB hg; have GE231 := gE_ HB hg; replace HB := bS_ HB hb; have NB215_231 := nL_ BK215 hg; have NB231_215 := nG_ BK215 hg; replace BK215 := bB_ BK215 hb; have NB216_231 := nL_ BK216 hg; have NB231_216 := nG_ BK216 hg; replace BK216 := bB_ BK216 hb; clear hb hbox hg
             refine hK.out _ _ ⟨(blk_cell BK215.out 0).trans rfl, (blk_cell BK215.out 1).trans rfl⟩ (fun hHeld => ?_)
             clear hK K
             refine nS_ (some 8) ?_
             exact norm_ (by simp only [putAll, Act.put, List.setIfInBounds_toArray, List.set_cons_zero, List.set_cons_succ] <;> rfl) (hJ0_4_9 (v220, v226, gb231) _ ⟨hHeld, (rT_ HO221), (rT_ HO227), (bT_ BK215), (bT_ BK216), (bT_ BK231), GW231.out, GE231.out, NB215_231.out, NB231_215.out, NB216_231.out, NB231_216.out, sABelo_5⟩)
          ·skip
           rintro ⟨v220, v223⟩ w25 ⟨hS_, h0_, h1_, h2_, h3_⟩
           try dsimp only at h0_ h1_ h2_ h3_
           have HO224 := Aside0.mk h0_; replace BK215 := Aside0.mk h1_; replace BK216 := Aside0.mk h2_; replace HB := Aside0.mk h3_; clear h0_ h1_ h2_ h3_
           have hHeld : w25.cell? ⟨gb215, 0, none⟩ = some (.slice A0_0 l0_0.length c0_0) ∧ w25.cell? ⟨gb215, 1, none⟩ = some (.slice A0_1 l0_1.length c0_1) := hS_
           refine norm_ (a' := ?_) ?_ ?_
           rotate_left
           ·simp only [putAll, Act.put, List.setIfInBounds_toArray, List.set_cons_zero, List.set_cons_succ]
            rfl
           refine two_ (i := 4) (j := 9) (Ni := some 24) (Nj := some 8) #[true, true, true, true, true, true, true, false, false, false, false] #[true, true, true, true, false, true, true, false, false, true, false] rfl rfl rfl rfl (two_of HT_.out (by kernel_rfl)) (by decide) (by decide) (fun K hK => ?_) (fun K hK => ?_)
           ·skip
            refine Kd.R_lit_step (Kd.int .i64) _ 2 ?hg (N := 24) ?hd (xs := ([] : List Int)) (inner := []) (ok := fun _ => True) (okp := fun _ => True) ?hr ?hp (fun _ hk => hk) trivial (Below.refl _ _) (Nat.le_refl _) (by simp) ?_; (case hd => rfl); (case hg => rfl); (case hr => first | (go_simp; done) | (go_simp; rfl)); (case hp => exact (Reps.none _ _))
            intro v226 w26 ho27 hb hg_ hnew_
            clear hg_ hnew_
            (first | rw [← Ny225.out] at ho27 | (simp only [Int.reduceToNat] at ho27; rw [← Ny225.out] at ho27))
            have HO227 := rL_ (rN_ ho27 HO224) HB
            replace HO224 := rE_ HO224 ho27 hb; replace BK215 := bB_ BK215 hb; replace BK216 := bB_ BK216 hb; replace HB := bS_ HB hb; clear hb ho27
            refine hK.out _ _ ⟨(blk_cell BK215.out 0).trans rfl, (blk_cell BK215.out 1).trans rfl⟩ (fun hHeld => ?_)
            clear hK K
            refine nS_ (some 24) ?_
            exact norm_ (by simp only [putAll, Act.put, List.setIfInBounds_toArray, List.set_cons_zero, List.set_cons_succ] <;> rfl) (hJ0_3_4 (v220, v223, v226) _ ⟨hHeld, (rM_ HO224), (rM_ HO227), (bT_ BK215), (bT_ BK216), sABelo_5⟩)
           ·skip
            refine box_step ?hg (N := 8) ?hd (cs := #[.slice none 0 0, .slice none 0 0]) (t := 26) ?hr ?_; (case hd => rfl); (case hg => rfl); (case hr => first | (go_simp; done) | (go_simp; rfl))
            intro gb231 hg w26 hbox hb
            replace HO224 := rB_ HO224 hb
            have BK231 := Aside0.mk (hbox)
            have GW231 := gE_ HB hg; have GE231 := gE_ HB hg; replace HB := bS_ HB hb; have NB215_231 := nL_ BK215 hg; have NB231_215 := nG_ BK215 hg; replace BK215 := bB_ BK215 hb; have NB216_231 := nL_ BK216 hg; have NB231_216 := nG_ BK216 hg; replace BK216 := bB_ BK216 hb; clear hb hbox hg
            refine hK.out _ _ ⟨(blk_cell BK215.out 0).trans rfl, (blk_cell BK215.out 1).trans rfl⟩ (fun hHeld => ?_)
            clear hK K
            refine nS_ (some 8) ?_
            exact norm_ (by simp only [putAll, Act.put, List.setIfInBounds_toArray, List.set_cons_zero, List.set_cons_succ] <;> rfl) (hJ0_3_9 (v220, v223, gb231) _ ⟨hHeld, (rT_ HO224), (bT_ BK215), (bT_ BK216), (bT_ BK231), GW231.out, GE231.out, NB215_231.out, NB231_215.out, NB216_231.out, NB231_216.out, sABelo_5⟩)
         ·skip
          rintro ⟨v220, v226, gb231⟩ w27 ⟨hS_, h0_, h1_, h2_, h3_, h4_, h5_, h6_, h7_, h8_, h9_, h10_, h11_⟩
          try dsimp only at h0_ h1_ h2_ h3_ h4_ h5_ h6_ h7_ h8_ h9_ h10_ h11_
          have HO221 := Aside0.mk h0_; have HO227 := Aside0.mk h1_; replace BK215 := Aside0.mk h2_; replace BK216 := Aside0.mk h3_; have BK231 := Aside0.mk h4_; have GW231 := Aside0.mk h5_; have GE231 := Aside0.mk h6_; have NB215_231 := Aside0.mk h7_; have NB231_215 := Aside0.mk h8_; have NB216_231 := Aside0.mk h9_; have NB231_216 := Aside0.mk h10_; replace HB := Aside0.mk h11_; clear h0_ h1_ h2_ h3_ h4_ h5_ h6_ h7_ h8_ h9_ h10_ h11_
          have hHeld : w27.cell? ⟨gb215, 0, none⟩ = some (.slice A0_0 l0_0.length c0_0) ∧ w27.cell? ⟨gb215, 1, none⟩ = some (.slice A0_1 l0_1.length c0_1) := hS_
          refine norm_ (a' := ?_) ?_ ?_
          rotate_left
          ·simp only [putAll, Act.put, List.setIfInBounds_toArray, List.set_cons_zero, List.set_cons_succ]
           rfl
          refine one_ (i := 3) (N := some 23) #[true, true, true, true, true, true, true, false, false, true, false] rfl rfl (one_of HT_.out (by kernel_rfl)) (by decide) (fun K hK => ?_)
          refine Kd.R_append_rows_step (Kd.int .i64) (w0 := w) w.heap.size (by rfl) (.tmp 20) (.tmp 22) 22 2 (.int .i64 0) 8 rfl Try.underlying22 info2 rfl (by decide) (by omega) v220 y219 l0_0 _ _ _ (fun k_ => some k_ ≠ (v226 : Value).ownBlock) (fun _ => False) rfl rfl ?aO ?aR (fun _ _ h => h) (fun _ h => h.elim) ?aF ?aB ?aS ?aL ?_
          (case aR => repeat (first | exact (Kd.C_below HR0_0.out HB.out) | (with_reducible refine Kd.C_alloc ?_ _) | (with_reducible refine Kd.C_drewN ?_ _) | (with_reducible refine Kd.C_drew ?_)))
          (case aB => exact sABelo_5)
          (case aF => exact (fun k_ hk => Kd.fresh' (rLt_ HO227) k_ hk))
          (case aO => exact (rT_ HO221))
          (case aS => exact (below_size sABelo_5))
          (case aL => have := LMc19.out; omega)
          intro v223 w28 ho hb hg hat
          rw [← Ny222.out] at ho
          replace BK215 := Aside0.mk (blk_grown (g := gb215) (o := .cells #[.slice A0_0 l0_0.length c0_0, .slice A0_1 l0_1.length c0_1] 26 (0, 0)) (bT_ BK215) hg (Kd.R_ne HO221.out BK215.out (by decide)))
          replace BK216 := Aside0.mk (blk_grown (g := gb216) (o := .cells #[.slice none 0 0, .slice none 0 0] 26 (0, 0)) (bT_ BK216) hg (Kd.R_ne HO221.out BK216.out (by decide)))
          replace HO227 := Aside0.mk (Kd.R_after (ok := (fun _ => True)) (rM_ HO227 (fun _ hk => ⟨trivial, hk⟩)) hg hat)
          replace BK231 := Aside0.mk (blk_grown (g := gb231) (o := .cells #[.slice none 0 0, .slice none 0 0] 26 (0, 0)) (bT_ BK231) hg (Kd.R_ne HO221.out BK231.out (by decide)))
          replace HB := Aside0.mk (hb)
          have HO224 := Aside0.mk (ho)
          clear HO221 ho hb hg hat
          refine hK.out _ _ ⟨(blk_cell BK215.out 0).trans rfl, (blk_cell BK215.out 1).trans rfl⟩ (fun hHeld => ?_)
          clear hK K
          refine nS_ (some 23) ?_
          exact norm_ (by simp only [putAll, Act.put, List.setIfInBounds_toArray, List.set_cons_zero, List.set_cons_succ] <;> rfl) (hJ0_3_4_9 (v220, v223, v226, gb231) _ ⟨hHeld, (rT_ HO224), (rM_ HO227), (bT_ BK215), (bT_ BK216), (bT_ BK231), GW231.out, GE231.out, NB215_231.out, NB231_215.out, NB216_231.out, NB231_216.out, sABelo_5⟩)
        ·skip
         rintro ⟨v220, v223, gb231⟩ w26 ⟨hS_, h0_, h1_, h2_, h3_, h4_, h5_, h6_, h7_, h8_, h9_, h10_⟩
         try dsimp only at h0_ h1_ h2_ h3_ h4_ h5_ h6_ h7_ h8_ h9_ h10_
         have HO224 := Aside0.mk h0_; replace BK215 := Aside0.mk h1_; replace BK216 := Aside0.mk h2_; have BK231 := Aside0.mk h3_; have GW231 := Aside0.mk h4_; have GE231 := Aside0.mk h5_; have NB215_231 := Aside0.mk h6_; have NB231_215 := Aside0.mk h7_; have NB216_231 := Aside0.mk h8_; have NB231_216 := Aside0.mk h9_; replace HB := Aside0.mk h10_; clear h0_ h1_ h2_ h3_ h4_ h5_ h6_ h7_ h8_ h9_ h10_
         have hHeld : w26.cell? ⟨gb215, 0, none⟩ = some (.slice A0_0 l0_0.length c0_0) ∧ w26.cell? ⟨gb215, 1, none⟩ = some (.slice A0_1 l0_1.length c0_1) := hS_
         refine norm_ (a' := ?_) ?_ ?_
         rotate_left
         ·simp only [putAll, Act.put, List.setIfInBounds_toArray, List.set_cons_zero, List.set_cons_succ]
          rfl
         refine one_ (i := 4) (N := some 24) #[true, true, true, true, true, true, true, false, false, true, false] rfl rfl (one_of HT_.out (by kernel_rfl)) (by decide) (fun K hK => ?_)
         refine Kd.R_lit_step (Kd.int .i64) _ 2 ?hg (N := 24) ?hd (xs := ([] : List Int)) (inner := []) (ok := fun _ => True) (okp := fun _ => True) ?hr ?hp (fun _ hk => hk) trivial (Below.refl _ _) (Nat.le_refl _) (by simp) ?_; (case hd => rfl); (case hg => rfl); (case hr => first | (go_simp; done) | (go_simp; rfl)); (case hp => exact (Reps.none _ _))
         intro v226 w27 ho28 hb hg_ hnew_
         clear hg_ hnew_
         (first | rw [← Ny225.out] at ho28 | (simp only [Int.reduceToNat] at ho28; rw [← Ny225.out] at ho28))
         have HO227 := rL_ (rN_ ho28 HO224) HB
         replace HO224 := rE_ HO224 ho28 hb; replace BK215 := bB_ BK215 hb; replace BK216 := bB_ BK216 hb; replace BK231 := bB_ BK231 hb; replace HB := bS_ HB hb; clear hb ho28
         refine hK.out _ _ ⟨(blk_cell BK215.out 0).trans rfl, (blk_cell BK215.out 1).trans rfl⟩ (fun hHeld => ?_)
         clear hK K
         refine nS_ (some 24) ?_
         exact norm_ (by simp only [putAll, Act.put, List.setIfInBounds_toArray, List.set_cons_zero, List.set_cons_succ] <;> rfl) (hJ0_3_4_9 (v220, v223, v226, gb231) _ ⟨hHeld, (rM_ HO224), (rM_ HO227), (bT_ BK215), (bT_ BK216), (bT_ BK231), GW231.out, GE231.out, NB215_231.out, NB231_215.out, NB216_231.out, NB231_216.out, sABelo_5⟩)
       ·skip
        rintro ⟨v220, v223, v226⟩ w27 ⟨hS_, h0_, h1_, h2_, h3_, h4_⟩
        try dsimp only at h0_ h1_ h2_ h3_ h4_
        have HO224 := Aside0.mk h0_; have HO227 := Aside0.mk h1_; replace BK215 := Aside0.mk h2_; replace BK216 := Aside0.mk h3_; replace HB := Aside0.mk h4_; clear h0_ h1_ h2_ h3_ h4_
        have hHeld : w27.cell? ⟨gb215, 0, none⟩ = some (.slice A0_0 l0_0.length c0_0) ∧ w27.cell? ⟨gb215, 1, none⟩ = some (.slice A0_1 l0_1.length c0_1) := hS_
        refine norm_ (a' := ?_) ?_ ?_
        rotate_left
        ·simp only [putAll, Act.put, List.setIfInBounds_toArray, List.set_cons_zero, List.set_cons_succ]
         rfl
        refine two_ (i := 7) (j := 9) (Ni := some 27) (Nj := some 8) #[true, true, true, true, true, true, true, true, false, false, false] #[true, true, true, true, true, true, true, false, false, true, false] rfl rfl rfl rfl (two_of HT_.out (by kernel_rfl)) (by decide) (by decide) (fun K hK => ?_) (fun K hK => ?_)
        ·skip
         refine Kd.R_append_rows_step (Kd.int .i64) (w0 := w) w.heap.size (by rfl) (.tmp 24) (.tmp 26) 22 2 (.int .i64 0) 8 rfl Try.underlying22 info2 rfl (by decide) (by omega) v226 y225 l0_1 _ _ _ (fun k_ => some k_ ≠ (v223 : Value).ownBlock) (fun _ => False) rfl rfl ?aO ?aR (fun _ _ h => h) (fun _ h => h.elim) ?aF ?aB ?aS ?aL ?_
         (case aR => repeat (first | exact (Kd.C_below HR0_1.out HB.out) | (with_reducible refine Kd.C_alloc ?_ _) | (with_reducible refine Kd.C_drewN ?_ _) | (with_reducible refine Kd.C_drew ?_)))
         (case aB => exact sABelo_5)
         (case aF => exact (fun k_ hk => Kd.fresh' (rLt_ HO224) k_ hk))
         (case aO => exact (rT_ HO227))
         (case aS => exact (below_size sABelo_5))
         (case aL => have := LMc20.out; omega)
         intro v229 w28 ho hb hg hat
         rw [← Ny228.out] at ho
         replace BK215 := Aside0.mk (blk_grown (g := gb215) (o := .cells #[.slice A0_0 l0_0.length c0_0, .slice A0_1 l0_1.length c0_1] 26 (0, 0)) (bT_ BK215) hg (Kd.R_ne HO227.out BK215.out (by decide)))
         replace BK216 := Aside0.mk (blk_grown (g := gb216) (o := .cells #[.slice none 0 0, .slice none 0 0] 26 (0, 0)) (bT_ BK216) hg (Kd.R_ne HO227.out BK216.out (by decide)))
         replace HO224 := Aside0.mk (Kd.R_after (ok := (fun _ => True)) (rM_ HO224 (fun _ hk => ⟨trivial, hk⟩)) hg hat)
         replace HB := Aside0.mk (hb)
         have HO230 := Aside0.mk (ho)
         clear HO227 ho hb hg hat
         obtain ⟨Ao29, co29, eo29⟩ := Kd.R_slice HO230.out
         (first | subst eo29 | (injection eo29 with f1_ f2_ f3_; have f4_ := f1_.symm; have f5_ := f3_.symm; clear f1_ f2_ f3_; subst f4_; subst f5_))
         obtain ⟨Ao30, co30, eo30⟩ := Kd.R_slice HO224.out
         (first | subst eo30 | (injection eo30 with f1_ f2_ f3_; have f4_ := f1_.symm; have f5_ := f3_.symm; clear f1_ f2_ f3_; subst f4_; subst f5_))
         refine hK.out _ _ ⟨(blk_cell BK215.out 0).trans rfl, (blk_cell BK215.out 1).trans rfl⟩ (fun hHeld => ?_)
         clear hK K
         refine nS_ (some 27) ?_
         refine pT_ 8 (some 28) #[true, true, true, true, true, true, true, true, true, false, false] HT_ ?_
         exact norm_ (by simp only [putAll, Act.put, List.setIfInBounds_toArray, List.set_cons_zero, List.set_cons_succ] <;> rfl) (hJ0_3_4_7 (v220, .slice Ao30 y222.length co30, v226, .slice Ao29 y228.length co29) _ ⟨hHeld, (rM_ HO224), (rT_ HO230), (bT_ BK215), (bT_ BK216), sABelo_5⟩)
        ·skip
         refine box_step ?hg (N := 8) ?hd (cs := #[.slice none 0 0, .slice none 0 0]) (t := 26) ?hr ?_; (case hd => rfl); (case hg => rfl); (case hr => first | (go_simp; done) | (go_simp; rfl))
         intro gb231 hg w28 hbox hb
         replace HO224 := rB_ HO224 hb; replace HO227 := rB_ HO227 hb
         have BK231 := Aside0.mk (hbox)
         have GW231 := gE_ HB hg; have GE231 := gE_ HB hg; replace HB := bS_ HB hb; have NB215_231 := nL_ BK215 hg; have NB231_215 := nG_ BK215 hg; replace BK215 := bB_ BK215 hb; have NB216_231 := nL_ BK216 hg; have NB231_216 := nG_ BK216 hg; replace BK216 := bB_ BK216 hb; clear hb hbox hg
         refine hK.out _ _ ⟨(blk_cell BK215.out 0).trans rfl, (blk_cell BK215.out 1).trans rfl⟩ (fun hHeld => ?_)
         clear hK K
         refine nS_ (some 8) ?_
         exact norm_ (by simp only [putAll, Act.put, List.setIfInBounds_toArray, List.set_cons_zero, List.set_cons_succ] <;> rfl) (hJ0_3_4_9 (v220, v223, v226, gb231) _ ⟨hHeld, (rT_ HO224), (rT_ HO227), (bT_ BK215), (bT_ BK216), (bT_ BK231), GW231.out, GE231.out, NB215_231.out, NB231_215.out, NB216_231.out, NB231_216.out, sABelo_5⟩)
      ·skip
       rintro ⟨v220, v223, v226, gb231⟩ w28 ⟨hS_, h0_, h1_, h2_, h3_, h4_, h5_, h6_, h7_, h8_, h9_, h10_, h11_⟩
       try dsimp only at h0_ h1_ h2_ h3_ h4_ h5_ h6_ h7_ h8_ h9_ h10_ h11_
       have HO224 := Aside0.mk h0_; have HO227 := Aside0.mk h1_; replace BK215 := Aside0.mk h2_; replace BK216 := Aside0.mk h3_; have BK231 := Aside0.mk h4_; have GW231 := Aside0.mk h5_; have GE231 := Aside0.mk h6_; have NB215_231 := Aside0.mk h7_; have NB231_215 := Aside0.mk h8_; have NB216_231 := Aside0.mk h9_; have NB231_216 := Aside0.mk h10_; replace HB := Aside0.mk h11_; clear h0_ h1_ h2_ h3_ h4_ h5_ h6_ h7_ h8_ h9_ h10_ h11_
       have hHeld : w28.cell? ⟨gb215, 0, none⟩ = some (.slice A0_0 l0_0.length c0_0) ∧ w28.cell? ⟨gb215, 1, none⟩ = some (.slice A0_1 l0_1.length c0_1) := hS_
       refine norm_ (a' := ?_) ?_ ?_
       rotate_left
       ·simp only [putAll, Act.put, List.setIfInBounds_toArray, List.set_cons_zero, List.set_cons_succ]
        rfl
       refine one_ (i := 7) (N := some 27) #[true, true, true, true, true, true, true, true, false, true, false] rfl rfl (one_of HT_.out (by kernel_rfl)) (by decide) (fun K hK => ?_)
       refine Kd.R_append_rows_step (Kd.int .i64) (w0 := w) w.heap.size (by rfl) (.tmp 24) (.tmp 26) 22 2 (.int .i64 0) 8 rfl Try.underlying22 info2 rfl (by decide) (by omega) v226 y225 l0_1 _ _ _ (fun k_ => some k_ ≠ (v223 : Value).ownBlock) (fun _ => False) rfl rfl ?aO ?aR (fun _ _ h => h) (fun _ h => h.elim) ?aF ?aB ?aS ?aL ?_
       (case aR => repeat (first | exact (Kd.C_below HR0_1.out HB.out) | (with_reducible refine Kd.C_alloc ?_ _) | (with_reducible refine Kd.C_drewN ?_ _) | (with_reducible refine Kd.C_drew ?_)))
       (case aB => exact sABelo_5)
       (case aF => exact (fun k_ hk => Kd.fresh' (rLt_ HO224) k_ hk))
       (case aO => exact (rT_ HO227))
       (case aS => exact (below_size sABelo_5))
       (case aL => have := LMc20.out; omega)
       intro v229 w29 ho hb hg hat
       rw [← Ny228.out] at ho
       replace BK215 := Aside0.mk (blk_grown (g := gb215) (o := .cells #[.slice A0_0 l0_0.length c0_0, .slice A0_1 l0_1.length c0_1] 26 (0, 0)) (bT_ BK215) hg (Kd.R_ne HO227.out BK215.out (by decide)))
       replace BK216 := Aside0.mk (blk_grown (g := gb216) (o := .cells #[.slice none 0 0, .slice none 0 0] 26 (0, 0)) (bT_ BK216) hg (Kd.R_ne HO227.out BK216.out (by decide)))
       replace HO224 := Aside0.mk (Kd.R_after (ok := (fun _ => True)) (rM_ HO224 (fun _ hk => ⟨trivial, hk⟩)) hg hat)
       replace BK231 := Aside0.mk (blk_grown (g := gb231) (o := .cells #[.slice none 0 0, .slice none 0 0] 26 (0, 0)) (bT_ BK231) hg (Kd.R_ne HO227.out BK231.out (by decide)))
       replace HB := Aside0.mk (hb)
       have HO230 := Aside0.mk (ho)
       clear HO227 ho hb hg hat
       obtain ⟨Ao30, co30, eo30⟩ := Kd.R_slice HO230.out
       (first | subst eo30 | (injection eo30 with f1_ f2_ f3_; have f4_ := f1_.symm; have f5_ := f3_.symm; clear f1_ f2_ f3_; subst f4_; subst f5_))
       obtain ⟨Ao31, co31, eo31⟩ := Kd.R_slice HO224.out
       (first | subst eo31 | (injection eo31 with f1_ f2_ f3_; have f4_ := f1_.symm; have f5_ := f3_.symm; clear f1_ f2_ f3_; subst f4_; subst f5_))
       refine hK.out _ _ ⟨(blk_cell BK215.out 0).trans rfl, (blk_cell BK215.out 1).trans rfl⟩ (fun hHeld => ?_)
       clear hK K
       refine nS_ (some 27) ?_
       refine pT_ 8 (some 28) #[true, true, true, true, true, true, true, true, true, true, false] HT_ ?_
       exact norm_ (by simp only [putAll, Act.put, List.setIfInBounds_toArray, List.set_cons_zero, List.set_cons_succ] <;> rfl) (hJ0_3_4_7_9 (v220, .slice Ao31 y222.length co31, v226, .slice Ao30 y228.length co30, gb231) _ ⟨hHeld, (rM_ HO224), (rT_ HO230), (bT_ BK215), (bT_ BK216), (bT_ BK231), GW231.out, GE231.out, NB215_231.out, NB231_215.out, NB216_231.out, NB231_216.out, sABelo_5⟩)
     ·skip
      rintro ⟨v220, v223, v226, v229⟩ w30 ⟨hS_, h0_, h1_, h2_, h3_, h4_⟩
      try dsimp only at h0_ h1_ h2_ h3_ h4_
      have HO224 := Aside0.mk h0_; have HO230 := Aside0.mk h1_; replace BK215 := Aside0.mk h2_; replace BK216 := Aside0.mk h3_; replace HB := Aside0.mk h4_; clear h0_ h1_ h2_ h3_ h4_
      have hHeld : w30.cell? ⟨gb215, 0, none⟩ = some (.slice A0_0 l0_0.length c0_0) ∧ w30.cell? ⟨gb215, 1, none⟩ = some (.slice A0_1 l0_1.length c0_1) := hS_
      obtain ⟨Ao31, co31, eo31⟩ := Kd.R_slice HO230.out
      (first | subst eo31 | (injection eo31 with f1_ f2_ f3_; have f4_ := f1_.symm; have f5_ := f3_.symm; clear f1_ f2_ f3_; subst f4_; subst f5_))
      obtain ⟨Ao32, co32, eo32⟩ := Kd.R_slice HO224.out
      (first | subst eo32 | (injection eo32 with f1_ f2_ f3_; have f4_ := f1_.symm; have f5_ := f3_.symm; clear f1_ f2_ f3_; subst f4_; subst f5_))
      refine norm_ (a' := ?_) ?_ ?_
      rotate_left
      ·simp only [putAll, Act.put, List.setIfInBounds_toArray, List.set_cons_zero, List.set_cons_succ]
       rfl
      refine one_ (i := 9) (N := some 8) #[true, true, true, true, true, true, true, true, true, true, false] rfl rfl (one_of HT_.out (by kernel_rfl)) (by decide) (fun K hK => ?_)
      refine box_step ?hg (N := 8) ?hd (cs := #[.slice none 0 0, .slice none 0 0]) (t := 26) ?hr ?_; (case hd => rfl); (case hg => rfl); (case hr => first | (go_simp; done) | (go_simp; rfl))
      intro gb231 hg w33 hbox hb
      replace HO224 := rB_ HO224 hb; replace HO230 := rB_ HO230 hb
      have BK231 := Aside0.mk (hbox)
      have GW231 := gE_ HB hg; have GE231 := gE_ HB hg; replace HB := bS_ HB hb; have NB215_231 := nL_ BK215 hg; have NB231_215 := nG_ BK215 hg; replace BK215 := bB_ BK215 hb; have NB216_231 := nL_ BK216 hg; have NB231_216 := nG_ BK216 hg; replace BK216 := bB_ BK216 hb; clear hb hbox hg
      refine hK.out _ _ ⟨(blk_cell BK215.out 0).trans rfl, (blk_cell BK215.out 1).trans rfl⟩ (fun hHeld => ?_)
      clear hK K
      refine nS_ (some 8) ?_
      exact norm_ (by simp only [putAll, Act.put, List.setIfInBounds_toArray, List.set_cons_zero, List.set_cons_succ] <;> rfl) (hJ0_3_4_7_9 (v220, .slice Ao32 y222.length co32, v226, .slice Ao31 y228.length co31, gb231) _ ⟨hHeld, (rT_ HO224), (rT_ HO230), (bT_ BK215), (bT_ BK216), (bT_ BK231), GW231.out, GE231.out, NB215_231.out, NB231_215.out, NB216_231.out, NB231_216.out, sABelo_5⟩)
    rintro ⟨v220, v223, v226, v229, gb231⟩ w31 ⟨hS_, h0_, h1_, h2_, h3_, h4_, h5_, h6_, h7_, h8_, h9_, h10_, h11_⟩
    try dsimp only at h0_ h1_ h2_ h3_ h4_ h5_ h6_ h7_ h8_ h9_ h10_ h11_
    have HO224 := Aside0.mk h0_; have HO230 := Aside0.mk h1_; replace BK215 := Aside0.mk h2_; replace BK216 := Aside0.mk h3_; have BK231 := Aside0.mk h4_; have GW231 := Aside0.mk h5_; have GE231 := Aside0.mk h6_; have NB215_231 := Aside0.mk h7_; have NB231_215 := Aside0.mk h8_; have NB216_231 := Aside0.mk h9_; have NB231_216 := Aside0.mk h10_; replace HB := Aside0.mk h11_; clear h0_ h1_ h2_ h3_ h4_ h5_ h6_ h7_ h8_ h9_ h10_ h11_
    have hHeld : w31.cell? ⟨gb215, 0, none⟩ = some (.slice A0_0 l0_0.length c0_0) ∧ w31.cell? ⟨gb215, 1, none⟩ = some (.slice A0_1 l0_1.length c0_1) := hS_
    obtain ⟨Ao32, co32, eo32⟩ := Kd.R_slice HO230.out
    (first | subst eo32 | (injection eo32 with f1_ f2_ f3_; have f4_ := f1_.symm; have f5_ := f3_.symm; clear f1_ f2_ f3_; subst f4_; subst f5_))
    obtain ⟨Ao33, co33, eo33⟩ := Kd.R_slice HO224.out
    (first | subst eo33 | (injection eo33 with f1_ f2_ f3_; have f4_ := f1_.symm; have f5_ := f3_.symm; clear f1_ f2_ f3_; subst f4_; subst f5_))
    refine norm_ (a' := ?_) ?_ ?_
    rotate_left
    ·simp only [putAll, Act.put, List.setIfInBounds_toArray, List.set_cons_zero, List.set_cons_succ]
     rfl
    refine one_ (i := 10) (N := none) #[true, true, true, true, true, true, true, true, true, true, true] rfl rfl (one_of HT_.out (by kernel_rfl)) (by decide) (fun K hK => ?_)
    have hs34 : w31.cell? ⟨gb231, 0, none⟩ = some (.slice none 0 0) := (blk_cell BK231.out 0).trans rfl
    have hfs34 := blk_frozen BK231.out 0; have hns34_0 := NB215_231.out; have hns34_1 := NB216_231.out; have hms34_0 := NB231_215.out; have hms34_1 := NB231_216.out
    have hs35 : w31.cell? ⟨gb231, 1, none⟩ = some (.slice none 0 0) := (blk_cell BK231.out 1).trans rfl
    have hfs35 := blk_frozen BK231.out 1; have hns35_0 := NB215_231.out; have hns35_1 := NB216_231.out; have hms35_0 := NB231_215.out; have hms35_1 := NB231_216.out
    refine skip_ (w1 := ?_) (by rfl) rfl ?_ ?_
    rotate_left
    ·go_simp
     rfl
    refine hK.out _ _ ⟨((cell_far (p := ⟨gb231, _, none⟩) NB215_231.out _).trans (((cell_far (p := ⟨gb231, _, none⟩) NB215_231.out _).trans (hHeld.1)))), ((cell_far (p := ⟨gb231, _, none⟩) NB215_231.out _).trans (((cell_far (p := ⟨gb231, _, none⟩) NB215_231.out _).trans (hHeld.2))))⟩ (fun hHeld => ?_)
    clear hK K
    refine done_ (done_of HT_.out (by kernel_rfl)) ?_
    try go_wp2
    go_loopg [9] kj3 (fun kq v9 w' => ∃ (x9_2 : Int) (x232000_2 : List Int) (x232001_2 : List Int) (u232000 : Value) (u232001 : Value), v9 = .int .i64 x9_2 ∧ Aside0 (spec_RunRing.l0 kq l1 a2 x9_2 x232000_2 x232001_2 = some (r1, r2, r3)) ∧ Aside0 (kq ≤ kj3) ∧ Aside0 (Kd.R (Kd.int .i64) 2 w' w.heap.size (fun k_ => some k_ ≠ (u232001 : Value).ownBlock) u232000 x232000_2) ∧ Aside0 (Kd.R (Kd.int .i64) 2 w' w.heap.size (fun k_ => some k_ ≠ (u232000 : Value).ownBlock) u232001 x232001_2) ∧ Aside0 (w'.heap[gb215]? = some (.cells #[(.slice A0_0 l0_0.length c0_0), (.slice A0_1 l0_1.length c0_1)] 26 (0, 0))) ∧ Aside0 (w'.heap[gb216]? = some (.cells #[(.slice none 0 0), (.slice none 0 0)] 26 (0, 0))) ∧ Aside0 (w'.heap[gb231]? = some (.cells #[u232000, u232001] 26 (0, 0))) ∧ Aside0 (Below w.heap.size w w'))
    case atStart => exact ⟨(0), (y222), (y228), (.slice Ao33 y222.length co33), (.slice Ao32 y228.length co32), (by first | rfl | (simp; done) | (simp [*]; done)), H', ⟨Nat.le_refl _⟩, ⟨by (with_reducible repeat (first | apply Kd.R_alloc | apply Kd.R_drewN | apply Kd.R_drew)); exact Kd.R_mono (Kd.R_far (p := ⟨gb231, 1, none⟩) (Kd.R_far (p := ⟨gb231, 0, none⟩) (Kd.R_types HO224.out BK231.out (by decide)) (fun _ hk => hk.2) (.slice Ao33 y222.length co33)) (fun _ hk => hk.2) (.slice Ao32 y228.length co32)) (fun _ hk => hk.1)⟩, ⟨by (with_reducible repeat (first | apply Kd.R_alloc | apply Kd.R_drewN | apply Kd.R_drew)); exact Kd.R_mono (Kd.R_far (p := ⟨gb231, 1, none⟩) (Kd.R_far (p := ⟨gb231, 0, none⟩) (Kd.R_types HO230.out BK231.out (by decide)) (fun _ hk => hk.2) (.slice Ao33 y222.length co33)) (fun _ hk => hk.2) (.slice Ao32 y228.length co32)) (fun _ hk => hk.1)⟩, ⟨by (with_reducible repeat (first | refine blk_drewN ?_ _ | refine blk_drew ?_ | refine blk_alloc ?_ _)); refine blk_far ?_ NB215_231.out _; (with_reducible repeat (first | refine blk_drewN ?_ _ | refine blk_drew ?_ | refine blk_alloc ?_ _)); refine blk_far ?_ NB215_231.out _; exact bT_ BK215⟩, ⟨by (with_reducible repeat (first | refine blk_drewN ?_ _ | refine blk_drew ?_ | refine blk_alloc ?_ _)); refine blk_far ?_ NB216_231.out _; (with_reducible repeat (first | refine blk_drewN ?_ _ | refine blk_drew ?_ | refine blk_alloc ?_ _)); refine blk_far ?_ NB216_231.out _; exact bT_ BK216⟩, ⟨by (with_reducible repeat (first | refine blk_drewN ?_ _ | refine blk_drew ?_ | refine blk_alloc ?_ _)); refine blk_put (cs := #[.slice Ao33 y222.length co33, .slice none 0 0]) ?_ 1 _ rfl; (with_reducible repeat (first | refine blk_drewN ?_ _ | refine blk_drew ?_ | refine blk_alloc ?_ _)); refine blk_put (cs := #[.slice none 0 0, .slice none 0 0]) ?_ 0 _ rfl; exact bT_ BK231⟩, ⟨sABelo_5⟩⟩
    case round =>
     clear H'; (try clear c1); (try clear c2); (try clear p2); (try clear c19); (try clear c20)
     obtain ⟨x9_2, x232000_2, x232001_2, u232000, u232001, rfl, HA, HK2, HO_232000, HO_232001, BK215, BK216, BK231, HB⟩ := hrel
     cases gk with
     | zero => exact absurd HA.out (by simp [spec_RunRing.l0])
     | succ k2 =>
      have H := HA.out; clear HA
      simp only [spec_RunRing.l0] at H
      by_cases c36 : x9_2 < a2
      ·rw [if_pos c36] at H
       have c36b0 : decide (x9_2 < a2) = true := decide_eq_true c36
       clear c36; replace H := Option.bind_eq_some_iff.mp H
       obtain ⟨⟨t232, t235⟩, A370, H⟩ := H
       replace H : (spec_RunRing.l0 k2 l1 a2 (wrap64 (x9_2 + 1)) t232 t235) = some (r1, r2, r3) := H
       have A37 := Aside0.mk A370; clear A370; have H' := Aside0.mk H; clear H; have hnb38 := NB231_215.out; have hnc38 := NB215_231.out; have hnb39 := NB231_216.out; have hnc39 := NB216_231.out
       have hcz40_0 : wr.cell? ⟨gb231, 0, none⟩ = some (u232000) := (blk_cell BK231.out 0).trans rfl
       have hcz40_1 : wr.cell? ⟨gb231, 1, none⟩ = some (u232001) := (blk_cell BK231.out 1).trans rfl
       have hfz40_0 := blk_frozen BK231.out 0; have hfz40_1 := blk_frozen BK231.out 1
       obtain ⟨Ao41, co41, eo41⟩ := Kd.R_slice HO_232000.out
       subst eo41
       obtain ⟨Ao42, co42, eo42⟩ := Kd.R_slice HO_232001.out
       subst eo42
       go_wp2_with (first | ((with_reducible refine gate_callee (f := 27) rfl ?_); refine gL_ (some 36) Try.func27 #[.agg #[.slice Ao41 x232000_2.length co41, .slice Ao42 x232001_2.length co42], .slice A1 l1.length c1] ?_; (with_reducible refine (spec_l17Step.calls k2 _ _ x232000_2 _ _ x232001_2 _ _ l1 t232 t235 _ ?side1 ?side2 ?side3 ?side4 ?side5 ?side6 A37.out).mono ?_); (case side1 => exact rD_ HO_232000); (case side2 => exact (Kd.R_reads' HO_232000.out).2.1); (case side3 => exact rD_ HO_232001); (case side4 => exact (Kd.R_reads' HO_232001.out).2.1); (case side5 => exact cB_ HR1 HB); (case side6 => exact HC1.out); rintro e w43 ⟨v233, v236, rfl, ho0, ho1, hb⟩; refine ⟨_, rfl, ?_⟩; have HO234 := rL_ (rN_ (rN_ ho0 HO_232000) HO_232001) HB; have HO237 := rL_ (rN_ (rN_ ho1 HO_232000) HO_232001) HB; replace HO_232000 := Aside0.mk (Kd.R_mono (Kd.R_told (Kd.R_told (Kd.R_old (rT_ HO_232000) hb) (Kd.R_base ho0)) (Kd.R_base ho1)) (fun _ h_ => h_.1)); replace HO_232001 := Aside0.mk (Kd.R_mono (Kd.R_told (Kd.R_told (Kd.R_old (rT_ HO_232001) hb) (Kd.R_base ho0)) (Kd.R_base ho1)) (fun _ h_ => h_.1)); replace BK215 := bB_ BK215 hb; replace BK216 := bB_ BK216 hb; replace BK231 := bB_ BK231 hb; replace HB := bS_ HB hb; (try clear hb); (try clear hb2); (try clear hk); (try clear hi); (try clear ho0); (try clear ho1); obtain ⟨Ao44, co44, eo44⟩ := Kd.R_slice HO234.out; subst eo44; have hcz45_0 : w43.cell? ⟨gb231, 0, none⟩ = some (.slice Ao41 x232000_2.length co41) := (blk_cell BK231.out 0).trans rfl; have hcz45_1 : w43.cell? ⟨gb231, 1, none⟩ = some (.slice Ao42 x232001_2.length co42) := (blk_cell BK231.out 1).trans rfl; have hfz45_0 := blk_frozen BK231.out 0; have hfz45_1 := blk_frozen BK231.out 1; obtain ⟨Ao46, co46, eo46⟩ := Kd.R_slice HO237.out; subst eo46))
       go_roundg k2
       case measure => have := HJ3.out; have := HK2.out; omega
       case rel => exact ⟨(wrap64 (x9_2 + 1)), (t232), (t235), (.slice Ao44 t232.length co44), (.slice Ao46 t235.length co46), (by first | rfl | (simp; done) | (simp [*]; done)), H', ⟨by have := HJ3.out; have := HK2.out; omega⟩, ⟨by (with_reducible repeat (first | apply Kd.R_alloc | apply Kd.R_drewN | apply Kd.R_drew)); exact Kd.R_mono (Kd.R_far (p := ⟨gb231, 1, none⟩) (Kd.R_far (p := ⟨gb231, 0, none⟩) (Kd.R_types HO234.out BK231.out (by decide)) (fun _ hk => hk.2) (.slice Ao44 t232.length co44)) (fun _ hk => hk.2) (.slice Ao46 t235.length co46)) (fun _ hk => hk.1.1.1)⟩, ⟨by (with_reducible repeat (first | apply Kd.R_alloc | apply Kd.R_drewN | apply Kd.R_drew)); exact Kd.R_mono (Kd.R_far (p := ⟨gb231, 1, none⟩) (Kd.R_far (p := ⟨gb231, 0, none⟩) (Kd.R_types HO237.out BK231.out (by decide)) (fun _ hk => hk.2) (.slice Ao44 t232.length co44)) (fun _ hk => hk.2) (.slice Ao46 t235.length co46)) (fun _ hk => hk.1.1.1)⟩, ⟨by (with_reducible repeat (first | refine blk_drewN ?_ _ | refine blk_drew ?_ | refine blk_alloc ?_ _)); refine blk_far ?_ NB215_231.out _; (with_reducible repeat (first | refine blk_drewN ?_ _ | refine blk_drew ?_ | refine blk_alloc ?_ _)); refine blk_far ?_ NB215_231.out _; exact bT_ BK215⟩, ⟨by (with_reducible repeat (first | refine blk_drewN ?_ _ | refine blk_drew ?_ | refine blk_alloc ?_ _)); refine blk_far ?_ NB216_231.out _; (with_reducible repeat (first | refine blk_drewN ?_ _ | refine blk_drew ?_ | refine blk_alloc ?_ _)); refine blk_far ?_ NB216_231.out _; exact bT_ BK216⟩, ⟨by (with_reducible repeat (first | refine blk_drewN ?_ _ | refine blk_drew ?_ | refine blk_alloc ?_ _)); refine blk_put (cs := #[.slice Ao44 t232.length co44, .slice Ao42 x232001_2.length co42]) ?_ 1 _ rfl; (with_reducible repeat (first | refine blk_drewN ?_ _ | refine blk_drew ?_ | refine blk_alloc ?_ _)); refine blk_put (cs := #[.slice Ao41 x232000_2.length co41, .slice Ao42 x232001_2.length co42]) ?_ 0 _ rfl; exact bT_ BK231⟩, ⟨sABelo_5⟩⟩
      ·rw [if_neg c36] at H
       have c36b0 : decide (x9_2 < a2) = false := decide_eq_false c36
       clear c36
       simp only [Option.some.injEq, Prod.mk.injEq] at H
       obtain ⟨rfl, rfl, rfl⟩ := H
       have hnb47 := NB231_215.out; have hnc47 := NB215_231.out; have hnb48 := NB231_216.out; have hnc48 := NB216_231.out
       have hcz49_0 : wr.cell? ⟨gb231, 0, none⟩ = some (u232000) := (blk_cell BK231.out 0).trans rfl
       have hcz49_1 : wr.cell? ⟨gb231, 1, none⟩ = some (u232001) := (blk_cell BK231.out 1).trans rfl
       have hfz49_0 := blk_frozen BK231.out 0; have hfz49_1 := blk_frozen BK231.out 1
       obtain ⟨Ao50, co50, eo50⟩ := Kd.R_slice HO_232000.out
       subst eo50
       have hnb51 := NB216_215.out; have hnc51 := NB215_216.out
       have hcz52_0 : wr.cell? ⟨gb216, 0, none⟩ = some (.slice none 0 0) := (blk_cell BK216.out 0).trans rfl
       have hcz52_1 : wr.cell? ⟨gb216, 1, none⟩ = some (.slice none 0 0) := (blk_cell BK216.out 1).trans rfl
       have hfz52_0 := blk_frozen BK216.out 0; have hfz52_1 := blk_frozen BK216.out 1
       obtain ⟨Ao53, co53, eo53⟩ := Kd.R_slice HO_232001.out
       subst eo53
       go_wp2
       refine bodyPost_ret (results_ct rfl _ _ gb216 26 #[.slice Ao50 x232000_2.length co50, .slice Ao53 x232001_2.length co53] (0, 0) _ rfl (by (with_reducible repeat (first | refine blk_drewN ?_ _ | refine blk_drew ?_ | refine blk_alloc ?_ _)); refine blk_put (cs := #[.slice Ao50 x232000_2.length co50, .slice none 0 0]) ?_ 1 _ rfl; (with_reducible repeat (first | refine blk_drewN ?_ _ | refine blk_drew ?_ | refine blk_alloc ?_ _)); refine blk_put (cs := #[.slice none 0 0, .slice none 0 0]) ?_ 0 _ rfl; exact bT_ BK216) Try.underlying26 rfl (by kernel_rfl)) rfl ?_
       exact ⟨_, _, by first | rfl | (simp [errW_none, errW_some] <;> rfl) | (simp [*, errW_none, errW_some] <;> rfl), by (with_reducible repeat (first | apply Kd.R_alloc | apply Kd.R_drewN | apply Kd.R_drew)); exact Kd.R_mono (Kd.R_far (p := ⟨gb216, 1, none⟩) (Kd.R_far (p := ⟨gb216, 0, none⟩) (Kd.R_types HO_232000.out BK216.out (by decide)) (fun _ hk => hk.2) (.slice Ao50 x232000_2.length co50)) (fun _ hk => hk.2) (.slice Ao53 x232001_2.length co53)) (fun _ hk => hk.1), by (with_reducible repeat (first | apply Kd.R_alloc | apply Kd.R_drewN | apply Kd.R_drew)); exact Kd.R_mono (Kd.R_far (p := ⟨gb216, 1, none⟩) (Kd.R_far (p := ⟨gb216, 0, none⟩) (Kd.R_types HO_232001.out BK216.out (by decide)) (fun _ hk => hk.2) (.slice Ao50 x232000_2.length co50)) (fun _ hk => hk.2) (.slice Ao53 x232001_2.length co53)) (fun _ hk => hk.1), sABelo_5⟩

end Go.Proofs.Ytjmpgngndnheaaa.QFnRingKept
