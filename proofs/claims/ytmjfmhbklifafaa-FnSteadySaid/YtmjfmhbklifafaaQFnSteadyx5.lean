-- Written by a program of this session out of the printer's texts and contracts of its own.
import Derived.Test.YtmjfmhbklifafaaSq
import Derived.Test.YtmjfmhbklifafaaQFnSteadyx0
import Derived.Test.YtmjfmhbklifafaaQFnSteadyx4
namespace Go.Proofs.Ytmjfmhbklifafaa.QFnSteady
open Go.RowKit Go.Proofs.YtmjfmhbklifafaaW.PrintWords Go.Proofs.YtmjfmhbklifafaaW.PrintLast Go.Proofs.YtmjfmhbklifafaaW.PrintMore Go.Proofs.Ytmjfmhbklifafaa.Sq
attribute [local go_sem] max2_int min2_int max_two min_two max_three min_three max_four min_four   -- for this text's walks alone
set_option linter.unusedVariables false
set_option linter.unusedSimpArgs false

/-! ### impl_Levels: function 18 -/
mutual
def impl_Levels.j0 : Nat → List Int → List Int → List Int → Int → Bool → Int → Option (List Int × Bool)
 | 0, _, _, _, _, _, _ => none
 | k + 1, x0, x1, x2, x3, x45, x260000 => if x45 = true then (some (([] : List Int), false)) else (impl_Levels.l0 k x0 x1 x2 x3 (x1.length : Int) 0 x260000)
def impl_Levels.l0 : Nat → List Int → List Int → List Int → Int → Int → Int → Int → Option (List Int × Bool)
 | 0, _, _, _, _, _, _, _ => none
 | k + 1, x0, x1, x2, x3, x47, x48, x260000 => if x48 < x47 then (if 0 ≤ x48 then (if x48 < (x2.length : Int) then (if x48 < (x1.length : Int) then (if (rd x2 x48) > (rd x1 x48) then (some (([] : List Int), false)) else (if x48 > 0 then (if 0 ≤ (wrap64 (x48 - 1)) then (if (wrap64 (x48 - 1)) < (x1.length : Int) then (if (rd x1 x48) ≤ (rd x1 (wrap64 (x48 - 1))) then (some (([] : List Int), false)) else (if (wrap64 (x48 - 1)) < (x2.length : Int) then (if (rd x2 x48) < (rd x2 (wrap64 (x48 - 1))) then (some (([] : List Int), false)) else (impl_Levels.l0 k x0 x1 x2 x3 x47 (wrap64 (x48 + 1)) x260000)) else (none))) else (none)) else (none)) else (impl_Levels.l0 k x0 x1 x2 x3 x47 (wrap64 (x48 + 1)) x260000))) else (none)) else (none)) else (none)) else (impl_Levels.l1 k x1 x2 x3 0 0 (([] : List Int)) x0 (x0.length : Int) 0 x260000)
def impl_Levels.l1 : Nat → List Int → List Int → Int → Int → Int → List Int → List Int → Int → Int → Int → Option (List Int × Bool)
 | 0, _, _, _, _, _, _, _, _, _, _ => none
 | k + 1, x1, x2, x3, x13, x14, x15, x91, x92, x93, x260000 => if x93 < x92 then (if 0 ≤ x93 then (if x93 < (x91.length : Int) then ((impl_Levels_1.f k x1 (rd x91 x93) x260000).bind fun t275 => (if t275 > x13 then (if x15.length < 17592186044416 then (impl_Levels.l1 k x1 x2 x3 t275 0 (x15 ++ [t275]) x91 x92 (wrap64 (x93 + 1)) x260000) else (none)) else (if x13 > 0 then (if 0 ≤ (wrap64 (x13 - 1)) then (if (wrap64 (x13 - 1)) < (x2.length : Int) then (impl_Levels.j3 k x1 x2 x3 x13 x14 x15 (rd x91 x93) x91 x92 x93 (decide ((rd x91 x93) < (rd x2 (wrap64 (x13 - 1))))) x260000) else (none)) else (none)) else (impl_Levels.j3 k x1 x2 x3 x13 x14 x15 (rd x91 x93) x91 x92 x93 false x260000)))) else (none)) else (none)) else (some (x15, true))
def impl_Levels.j3 : Nat → List Int → List Int → Int → Int → Int → List Int → Int → List Int → Int → Int → Bool → Int → Option (List Int × Bool)
 | 0, _, _, _, _, _, _, _, _, _, _, _, _ => none
 | k + 1, x1, x2, x3, x13, x14, x15, x17, x91, x92, x93, x106, x260000 => if x106 = true then (if (wrap64 (x14 + 1)) = x3 then ((impl_Levels_1.f k x2 x17 x260000).bind fun t280 => (if x15.length < 17592186044416 then (impl_Levels.l1 k x1 x2 x3 t280 0 (x15 ++ [t280]) x91 x92 (wrap64 (x93 + 1)) x260000) else (none))) else (if x15.length < 17592186044416 then (impl_Levels.l1 k x1 x2 x3 x13 (wrap64 (x14 + 1)) (x15 ++ [x13]) x91 x92 (wrap64 (x93 + 1)) x260000) else (none))) else (if x15.length < 17592186044416 then (impl_Levels.l1 k x1 x2 x3 x13 0 (x15 ++ [x13]) x91 x92 (wrap64 (x93 + 1)) x260000) else (none))
end
def impl_Levels.f (k : Nat) (l0 : List Int) (l1 : List Int) (l2 : List Int) (a3 : Int) : Option (List Int × Bool) := (impl_seriesOk.f k l0).bind fun t260 => (if t260 = true then ((impl_in.f (l1.length : Int) 1 5).bind fun t261 => (if t261 = true then ((impl_each.f k l1 (l1.length : Int) (-100000) 100000).bind fun t262 => (if t262 = true then ((impl_each.f k l2 (l1.length : Int) (-100000) 100000).bind fun t263 => (if t263 = true then ((impl_in.f a3 1 100).bind fun t264 => (impl_Levels.j0 k l0 l1 l2 a3 (!t264) (l1.length : Int))) else (impl_Levels.j0 k l0 l1 l2 a3 true (l1.length : Int)))) else (impl_Levels.j0 k l0 l1 l2 a3 true (l1.length : Int)))) else (impl_Levels.j0 k l0 l1 l2 a3 true (l1.length : Int)))) else (impl_Levels.j0 k l0 l1 l2 a3 true (l1.length : Int)))
theorem impl_Levels.mono_l : ∀ k, (∀ y0 y1 y2 y3 y4 y5, LeO (impl_Levels.j0 k y0 y1 y2 y3 y4 y5) (impl_Levels.j0 (k + 1) y0 y1 y2 y3 y4 y5)) ∧ (∀ y0 y1 y2 y3 y4 y5 y6, LeO (impl_Levels.l0 k y0 y1 y2 y3 y4 y5 y6) (impl_Levels.l0 (k + 1) y0 y1 y2 y3 y4 y5 y6)) ∧ (∀ y0 y1 y2 y3 y4 y5 y6 y7 y8 y9, LeO (impl_Levels.l1 k y0 y1 y2 y3 y4 y5 y6 y7 y8 y9) (impl_Levels.l1 (k + 1) y0 y1 y2 y3 y4 y5 y6 y7 y8 y9)) ∧ (∀ y0 y1 y2 y3 y4 y5 y6 y7 y8 y9 y10 y11, LeO (impl_Levels.j3 k y0 y1 y2 y3 y4 y5 y6 y7 y8 y9 y10 y11) (impl_Levels.j3 (k + 1) y0 y1 y2 y3 y4 y5 y6 y7 y8 y9 y10 y11))
 | 0 => ⟨fun _ _ _ _ _ _ r h => by simp [impl_Levels.j0] at h, fun _ _ _ _ _ _ _ r h => by simp [impl_Levels.l0] at h, fun _ _ _ _ _ _ _ _ _ _ r h => by simp [impl_Levels.l1] at h, fun _ _ _ _ _ _ _ _ _ _ _ _ r h => by simp [impl_Levels.j3] at h⟩
 | k + 1 => by
  obtain ⟨ih0, ih1, ih2, ih3⟩ := impl_Levels.mono_l k
  refine ⟨?_, ?_, ?_, ?_⟩
  intro y0 y1 y2 y3 y4 y5; unfold impl_Levels.j0; rotate_left
  intro y0 y1 y2 y3 y4 y5 y6; unfold impl_Levels.l0; rotate_left
  intro y0 y1 y2 y3 y4 y5 y6 y7 y8 y9; unfold impl_Levels.l1; rotate_left
  intro y0 y1 y2 y3 y4 y5 y6 y7 y8 y9 y10 y11; unfold impl_Levels.j3; rotate_left
  all_goals repeat' first
  | (with_reducible exact ih0 _ _ _ _ _ _)
  | (with_reducible exact ih1 _ _ _ _ _ _ _)
  | (with_reducible exact ih2 _ _ _ _ _ _ _ _ _ _)
  | (with_reducible exact ih3 _ _ _ _ _ _ _ _ _ _ _ _)
  | (with_reducible exact impl_Levels_1.mono _ _ _ _)
  | (with_reducible exact impl_each.mono _ _ _ _ _)
  | (with_reducible exact impl_seriesOk.mono _ _)
  | (with_reducible exact LeO.refl _)
  | (with_reducible exact LeO.none _)
  | (with_reducible refine LeO.ite ?_ ?_)
  | (with_reducible refine LeO.bind ?_ (fun _ => ?_))
  | exact ih0 _ _ _ _ _ _
  | exact ih1 _ _ _ _ _ _ _
  | exact ih2 _ _ _ _ _ _ _ _ _ _
  | exact ih3 _ _ _ _ _ _ _ _ _ _ _ _
  | exact impl_Levels_1.mono _ _ _ _
  | exact impl_each.mono _ _ _ _ _
  | exact impl_seriesOk.mono _ _
  | exact LeO.none _
  | refine LeO.ite ?_ ?_
  | refine LeO.bind ?_ (fun _ => ?_)
theorem impl_Levels.mono : ∀ a0 a1 a2 a3 k, LeO (impl_Levels.f k a0 a1 a2 a3) (impl_Levels.f (k + 1) a0 a1 a2 a3) := by
 intro a0 a1 a2 a3 k
 obtain ⟨ih0, ih1, ih2, ih3⟩ := impl_Levels.mono_l k
 unfold impl_Levels.f
 repeat' first
   | (with_reducible exact ih0 _ _ _ _ _ _)
   | (with_reducible exact ih1 _ _ _ _ _ _ _)
   | (with_reducible exact ih2 _ _ _ _ _ _ _ _ _ _)
   | (with_reducible exact ih3 _ _ _ _ _ _ _ _ _ _ _ _)
   | (with_reducible exact impl_Levels_1.mono _ _ _ _)
   | (with_reducible exact impl_each.mono _ _ _ _ _)
   | (with_reducible exact impl_seriesOk.mono _ _)
   | (with_reducible exact LeO.refl _)
   | (with_reducible exact LeO.none _)
   | (with_reducible refine LeO.ite ?_ ?_)
   | (with_reducible refine LeO.bind ?_ (fun _ => ?_))
   | exact ih0 _ _ _ _ _ _
   | exact ih1 _ _ _ _ _ _ _
   | exact ih2 _ _ _ _ _ _ _ _ _ _
   | exact ih3 _ _ _ _ _ _ _ _ _ _ _ _
   | exact impl_Levels_1.mono _ _ _ _
   | exact impl_each.mono _ _ _ _ _
   | exact impl_seriesOk.mono _ _
   | exact LeO.none _
   | refine LeO.ite ?_ ?_
   | refine LeO.bind ?_ (fun _ => ?_)
set_option maxHeartbeats 8000000 in
set_option maxRecDepth 100000 in
theorem impl_Levels.calls (k : Nat) (A0 : Option Addr) (c0 : Nat) (l0 : List Int) (A1 : Option Addr) (c1 : Nat) (l1 : List Int) (A2 : Option Addr) (c2 : Nat) (l2 : List Int) (a3 : Int) (r1 : List Int) (r2 : Bool) (w : World) (hr0 : Kd.C (Kd.int .i64) w A0 l0.length l0) (hc0 : l0.length ≤ c0) (hr1 : Kd.C (Kd.int .i64) w A1 l1.length l1) (hc1 : l1.length ≤ c1) (hr2 : Kd.C (Kd.int .i64) w A2 l2.length l2) (hc2 : l2.length ≤ c2) (h : impl_Levels.f k l0 l1 l2 a3 = some (r1, r2)) :
  Calls Try.prog 18 #[.slice A0 l0.length c0, .slice A1 l1.length c1, .slice A2 l2.length c2, .int .i64 a3] w fun e w' => ∃ v0_ : Value, e = .returned (.tuple #[v0_, .bool r2]) ∧ Kd.R (Kd.int .i64) 2 w' w.heap.size (fun _ => True) v0_ r1 ∧ Below w.heap.size w w' := by
 have hmf_ : ∀ (fn : Fn) (first cap : Array Value) (w : World), (Instr.makeFunc fn first cap).run Try.prog w = .ok (.func fn first cap) w := fun _ _ _ _ => rfl
 have HR0 := Aside0.mk hr0; have HC0 := Aside0.mk hc0; clear hr0 hc0; have HR1 := Aside0.mk hr1; have HC1 := Aside0.mk hc1; clear hr1 hc1; have HR2 := Aside0.mk hr2; have HC2 := Aside0.mk hc2; clear hr2 hc2
 have HB := Aside0.mk (Below.refl w.heap.size w)
 have H : ((impl_seriesOk.f k l0).bind fun t260 => (if t260 = true then ((impl_in.f (l1.length : Int) 1 5).bind fun t261 => (if t261 = true then ((impl_each.f k l1 (l1.length : Int) (-100000) 100000).bind fun t262 => (if t262 = true then ((impl_each.f k l2 (l1.length : Int) (-100000) 100000).bind fun t263 => (if t263 = true then ((impl_in.f a3 1 100).bind fun t264 => (impl_Levels.j0 k l0 l1 l2 a3 (!t264) (l1.length : Int))) else (impl_Levels.j0 k l0 l1 l2 a3 true (l1.length : Int)))) else (impl_Levels.j0 k l0 l1 l2 a3 true (l1.length : Int)))) else (impl_Levels.j0 k l0 l1 l2 a3 true (l1.length : Int)))) else (impl_Levels.j0 k l0 l1 l2 a3 true (l1.length : Int)))) = some (r1, r2) := h
 clear h; have HC5 := Aside0.mk H; clear H
 go_enter Try.func18, Try.ntmps18
 go_upto_region 2 with (first | ((with_reducible refine gate_dst (N := 10) rfl ?_); refine box_event ?hg (N := 10) ?hd (cs := #[.int .i64 0]) (t := 3) ?hr ?_; (case hd => rfl); (case hg => rfl); (case hr => first | (go_simp; done) | (go_simp; rfl)); intro gb259 hg w6 hbox hb; have BK259 := Aside0.mk (hbox); have GW259 := gE_ HB hg; have GE259 := gE_ HB hg; replace HB := bS_ HB hb; clear hb hbox hg; have hcz7_0 : w6.cell? ⟨gb259, 0, none⟩ = some (.int .i64 0) := (blk_cell BK259.out 0).trans rfl; have hfz7_0 := blk_frozen BK259.out 0))
 repeat (go_quiet (fail); go_upto_region 2 with (first | ((with_reducible refine gate_dst (N := 10) rfl ?_); refine box_event ?hg (N := 10) ?hd (cs := #[.int .i64 0]) (t := 3) ?hr ?_; (case hd => rfl); (case hg => rfl); (case hr => first | (go_simp; done) | (go_simp; rfl)); intro gb259 hg w6 hbox hb; have BK259 := Aside0.mk (hbox); have GW259 := gE_ HB hg; have GE259 := gE_ HB hg; replace HB := bS_ HB hb; clear hb hbox hg; have hcz7_0 : w6.cell? ⟨gb259, 0, none⟩ = some (.int .i64 0) := (blk_cell BK259.out 0).trans rfl; have hfz7_0 := blk_frozen BK259.out 0)))
 (try simp only [Act.put, List.setIfInBounds_toArray, List.set_cons_zero, List.set_cons_succ])
 go_cut [45] (fun v45 wc => ∃ (kq : Nat) (x45_4 : Bool), v45 = .bool x45_4 ∧ Aside0 (impl_Levels.j0 kq l0 l1 l2 a3 x45_4 (l1.length : Int) = some (r1, r2)) ∧ Aside0 (kq ≤ k) ∧ Aside0 (wc.heap[gb259]? = some (.cells #[.int .i64 (l1.length : Int)] 3 (0, 0))) ∧ Aside0 (Below w.heap.size w wc))
 case first =>
  have H := HC5.out; clear HC5; replace H := Option.bind_eq_some_iff.mp H
  obtain ⟨t260, A80, H⟩ := H
  replace H : (if t260 = true then ((impl_in.f (l1.length : Int) 1 5).bind fun t261 => (if t261 = true then ((impl_each.f k l1 (l1.length : Int) (-100000) 100000).bind fun t262 => (if t262 = true then ((impl_each.f k l2 (l1.length : Int) (-100000) 100000).bind fun t263 => (if t263 = true then ((impl_in.f a3 1 100).bind fun t264 => (impl_Levels.j0 k l0 l1 l2 a3 (!t264) (l1.length : Int))) else (impl_Levels.j0 k l0 l1 l2 a3 true (l1.length : Int)))) else (impl_Levels.j0 k l0 l1 l2 a3 true (l1.length : Int)))) else (impl_Levels.j0 k l0 l1 l2 a3 true (l1.length : Int)))) else (impl_Levels.j0 k l0 l1 l2 a3 true (l1.length : Int))) = some (r1, r2) := H
  have A8 := Aside0.mk A80; clear A80
  by_cases c9 : t260 = true
  ·subst c9
   have H1 : ((impl_in.f (l1.length : Int) 1 5).bind fun t261 => (if t261 = true then ((impl_each.f k l1 (l1.length : Int) (-100000) 100000).bind fun t262 => (if t262 = true then ((impl_each.f k l2 (l1.length : Int) (-100000) 100000).bind fun t263 => (if t263 = true then ((impl_in.f a3 1 100).bind fun t264 => (impl_Levels.j0 k l0 l1 l2 a3 (!t264) (l1.length : Int))) else (impl_Levels.j0 k l0 l1 l2 a3 true (l1.length : Int)))) else (impl_Levels.j0 k l0 l1 l2 a3 true (l1.length : Int)))) else (impl_Levels.j0 k l0 l1 l2 a3 true (l1.length : Int)))) = some (r1, r2) := by rw [if_pos rfl] at H; exact H
   clear H; have H := H1; clear H1; replace H := Option.bind_eq_some_iff.mp H
   obtain ⟨t261, A100, H⟩ := H
   replace H : (if t261 = true then ((impl_each.f k l1 (l1.length : Int) (-100000) 100000).bind fun t262 => (if t262 = true then ((impl_each.f k l2 (l1.length : Int) (-100000) 100000).bind fun t263 => (if t263 = true then ((impl_in.f a3 1 100).bind fun t264 => (impl_Levels.j0 k l0 l1 l2 a3 (!t264) (l1.length : Int))) else (impl_Levels.j0 k l0 l1 l2 a3 true (l1.length : Int)))) else (impl_Levels.j0 k l0 l1 l2 a3 true (l1.length : Int)))) else (impl_Levels.j0 k l0 l1 l2 a3 true (l1.length : Int))) = some (r1, r2) := H
   have A10 := Aside0.mk A100; clear A100
   by_cases c11 : t261 = true
   ·subst c11
    have H1 : ((impl_each.f k l1 (l1.length : Int) (-100000) 100000).bind fun t262 => (if t262 = true then ((impl_each.f k l2 (l1.length : Int) (-100000) 100000).bind fun t263 => (if t263 = true then ((impl_in.f a3 1 100).bind fun t264 => (impl_Levels.j0 k l0 l1 l2 a3 (!t264) (l1.length : Int))) else (impl_Levels.j0 k l0 l1 l2 a3 true (l1.length : Int)))) else (impl_Levels.j0 k l0 l1 l2 a3 true (l1.length : Int)))) = some (r1, r2) := by rw [if_pos rfl] at H; exact H
    clear H; have H := H1; clear H1; replace H := Option.bind_eq_some_iff.mp H
    obtain ⟨t262, A120, H⟩ := H
    replace H : (if t262 = true then ((impl_each.f k l2 (l1.length : Int) (-100000) 100000).bind fun t263 => (if t263 = true then ((impl_in.f a3 1 100).bind fun t264 => (impl_Levels.j0 k l0 l1 l2 a3 (!t264) (l1.length : Int))) else (impl_Levels.j0 k l0 l1 l2 a3 true (l1.length : Int)))) else (impl_Levels.j0 k l0 l1 l2 a3 true (l1.length : Int))) = some (r1, r2) := H
    have A12 := Aside0.mk A120; clear A120
    by_cases c13 : t262 = true
    ·subst c13
     have H1 : ((impl_each.f k l2 (l1.length : Int) (-100000) 100000).bind fun t263 => (if t263 = true then ((impl_in.f a3 1 100).bind fun t264 => (impl_Levels.j0 k l0 l1 l2 a3 (!t264) (l1.length : Int))) else (impl_Levels.j0 k l0 l1 l2 a3 true (l1.length : Int)))) = some (r1, r2) := by rw [if_pos rfl] at H; exact H
     clear H; have H := H1; clear H1; replace H := Option.bind_eq_some_iff.mp H
     obtain ⟨t263, A140, H⟩ := H
     replace H : (if t263 = true then ((impl_in.f a3 1 100).bind fun t264 => (impl_Levels.j0 k l0 l1 l2 a3 (!t264) (l1.length : Int))) else (impl_Levels.j0 k l0 l1 l2 a3 true (l1.length : Int))) = some (r1, r2) := H
     have A14 := Aside0.mk A140; clear A140
     by_cases c15 : t263 = true
     ·subst c15
      have H1 : ((impl_in.f a3 1 100).bind fun t264 => (impl_Levels.j0 k l0 l1 l2 a3 (!t264) (l1.length : Int))) = some (r1, r2) := by rw [if_pos rfl] at H; exact H
      clear H; have H := H1; clear H1; replace H := Option.bind_eq_some_iff.mp H
      obtain ⟨t264, A160, H⟩ := H
      replace H : (impl_Levels.j0 k l0 l1 l2 a3 (!t264) (l1.length : Int)) = some (r1, r2) := H
      have A16 := Aside0.mk A160; clear A160; have H' := Aside0.mk H; clear H
      go_wp2_with (first | (go_at_call 32; (with_reducible refine (impl_seriesOk.calls k _ _ l0 true _ ?side1 ?side2 A8.out).mono ?_); (case side1 => exact Kd.C_below HR0.out (by repeat (first | (with_reducible first | exact HB.out | apply below_alloc | apply pw_below_drewN | apply below_drew1 | refine below_set ?_ GE259.out) | exact HB.out))); (case side2 => exact HC0.out); rintro e w' ⟨rfl, ⟨nd, rfl⟩⟩; (try first | exact ⟨rfl, _, World.drewN_drewN _ _ _⟩ | exact ⟨rfl, _, Eq.trans (World.drewN_drewN _ _ _) (congrArg (World.drewN _) (Nat.add_assoc _ _ _))⟩); have hcz17_0 : w6.cell? ⟨gb259, 0, none⟩ = some (.int .i64 0) := (blk_cell BK259.out 0).trans rfl; have hfz17_0 := blk_frozen BK259.out 0) | (go_at_call 34; (with_reducible refine (impl_in.calls (l1.length : Int) 1 5 true _ A10.out).mono ?_); rintro e w' ⟨rfl, ⟨nd, rfl⟩⟩; (try first | exact ⟨rfl, _, World.drewN_drewN _ _ _⟩ | exact ⟨rfl, _, Eq.trans (World.drewN_drewN _ _ _) (congrArg (World.drewN _) (Nat.add_assoc _ _ _))⟩)) | (go_at_call 40; (with_reducible refine (impl_each.calls k _ _ l1 (l1.length : Int) (-100000) 100000 true _ ?side1 ?side2 A12.out).mono ?_); (case side1 => exact Kd.C_below HR1.out (by repeat (first | (with_reducible first | exact HB.out | apply below_alloc | apply pw_below_drewN | apply below_drew1 | refine below_set ?_ GE259.out) | exact HB.out))); (case side2 => exact HC1.out); rintro e w' ⟨rfl, ⟨nd, rfl⟩⟩; (try first | exact ⟨rfl, _, World.drewN_drewN _ _ _⟩ | exact ⟨rfl, _, Eq.trans (World.drewN_drewN _ _ _) (congrArg (World.drewN _) (Nat.add_assoc _ _ _))⟩)) | (go_at_call 40; (with_reducible refine (impl_each.calls k _ _ l2 (l1.length : Int) (-100000) 100000 true _ ?side1 ?side2 A14.out).mono ?_); (case side1 => exact Kd.C_below HR2.out (by repeat (first | (with_reducible first | exact HB.out | apply below_alloc | apply pw_below_drewN | apply below_drew1 | refine below_set ?_ GE259.out) | exact HB.out))); (case side2 => exact HC2.out); rintro e w' ⟨rfl, ⟨nd, rfl⟩⟩; (try first | exact ⟨rfl, _, World.drewN_drewN _ _ _⟩ | exact ⟨rfl, _, Eq.trans (World.drewN_drewN _ _ _) (congrArg (World.drewN _) (Nat.add_assoc _ _ _))⟩)) | (go_at_call 34; (with_reducible refine (impl_in.calls a3 1 100 t264 _ A16.out).mono ?_); rintro e w' ⟨rfl, ⟨nd, rfl⟩⟩; (try first | exact ⟨rfl, _, World.drewN_drewN _ _ _⟩ | exact ⟨rfl, _, Eq.trans (World.drewN_drewN _ _ _) (congrArg (World.drewN _) (Nat.add_assoc _ _ _))⟩)))
      repeat (go_quiet (first | (go_at_call 32; (with_reducible refine (impl_seriesOk.calls k _ _ l0 true _ ?side1 ?side2 A8.out).mono ?_); (case side1 => exact Kd.C_below HR0.out (by repeat (first | (with_reducible first | exact HB.out | apply below_alloc | apply pw_below_drewN | apply below_drew1 | refine below_set ?_ GE259.out) | exact HB.out))); (case side2 => exact HC0.out); rintro e w' ⟨rfl, ⟨nd, rfl⟩⟩; (try first | exact ⟨rfl, _, World.drewN_drewN _ _ _⟩ | exact ⟨rfl, _, Eq.trans (World.drewN_drewN _ _ _) (congrArg (World.drewN _) (Nat.add_assoc _ _ _))⟩); have hcz17_0 : w6.cell? ⟨gb259, 0, none⟩ = some (.int .i64 0) := (blk_cell BK259.out 0).trans rfl; have hfz17_0 := blk_frozen BK259.out 0) | (go_at_call 34; (with_reducible refine (impl_in.calls (l1.length : Int) 1 5 true _ A10.out).mono ?_); rintro e w' ⟨rfl, ⟨nd, rfl⟩⟩; (try first | exact ⟨rfl, _, World.drewN_drewN _ _ _⟩ | exact ⟨rfl, _, Eq.trans (World.drewN_drewN _ _ _) (congrArg (World.drewN _) (Nat.add_assoc _ _ _))⟩)) | (go_at_call 40; (with_reducible refine (impl_each.calls k _ _ l1 (l1.length : Int) (-100000) 100000 true _ ?side1 ?side2 A12.out).mono ?_); (case side1 => exact Kd.C_below HR1.out (by repeat (first | (with_reducible first | exact HB.out | apply below_alloc | apply pw_below_drewN | apply below_drew1 | refine below_set ?_ GE259.out) | exact HB.out))); (case side2 => exact HC1.out); rintro e w' ⟨rfl, ⟨nd, rfl⟩⟩; (try first | exact ⟨rfl, _, World.drewN_drewN _ _ _⟩ | exact ⟨rfl, _, Eq.trans (World.drewN_drewN _ _ _) (congrArg (World.drewN _) (Nat.add_assoc _ _ _))⟩)) | (go_at_call 40; (with_reducible refine (impl_each.calls k _ _ l2 (l1.length : Int) (-100000) 100000 true _ ?side1 ?side2 A14.out).mono ?_); (case side1 => exact Kd.C_below HR2.out (by repeat (first | (with_reducible first | exact HB.out | apply below_alloc | apply pw_below_drewN | apply below_drew1 | refine below_set ?_ GE259.out) | exact HB.out))); (case side2 => exact HC2.out); rintro e w' ⟨rfl, ⟨nd, rfl⟩⟩; (try first | exact ⟨rfl, _, World.drewN_drewN _ _ _⟩ | exact ⟨rfl, _, Eq.trans (World.drewN_drewN _ _ _) (congrArg (World.drewN _) (Nat.add_assoc _ _ _))⟩)) | (go_at_call 34; (with_reducible refine (impl_in.calls a3 1 100 t264 _ A16.out).mono ?_); rintro e w' ⟨rfl, ⟨nd, rfl⟩⟩; (try first | exact ⟨rfl, _, World.drewN_drewN _ _ _⟩ | exact ⟨rfl, _, Eq.trans (World.drewN_drewN _ _ _) (congrArg (World.drewN _) (Nat.add_assoc _ _ _))⟩))); try go_wp2_with (first | (go_at_call 32; (with_reducible refine (impl_seriesOk.calls k _ _ l0 true _ ?side1 ?side2 A8.out).mono ?_); (case side1 => exact Kd.C_below HR0.out (by repeat (first | (with_reducible first | exact HB.out | apply below_alloc | apply pw_below_drewN | apply below_drew1 | refine below_set ?_ GE259.out) | exact HB.out))); (case side2 => exact HC0.out); rintro e w' ⟨rfl, ⟨nd, rfl⟩⟩; (try first | exact ⟨rfl, _, World.drewN_drewN _ _ _⟩ | exact ⟨rfl, _, Eq.trans (World.drewN_drewN _ _ _) (congrArg (World.drewN _) (Nat.add_assoc _ _ _))⟩); have hcz17_0 : w6.cell? ⟨gb259, 0, none⟩ = some (.int .i64 0) := (blk_cell BK259.out 0).trans rfl; have hfz17_0 := blk_frozen BK259.out 0) | (go_at_call 34; (with_reducible refine (impl_in.calls (l1.length : Int) 1 5 true _ A10.out).mono ?_); rintro e w' ⟨rfl, ⟨nd, rfl⟩⟩; (try first | exact ⟨rfl, _, World.drewN_drewN _ _ _⟩ | exact ⟨rfl, _, Eq.trans (World.drewN_drewN _ _ _) (congrArg (World.drewN _) (Nat.add_assoc _ _ _))⟩)) | (go_at_call 40; (with_reducible refine (impl_each.calls k _ _ l1 (l1.length : Int) (-100000) 100000 true _ ?side1 ?side2 A12.out).mono ?_); (case side1 => exact Kd.C_below HR1.out (by repeat (first | (with_reducible first | exact HB.out | apply below_alloc | apply pw_below_drewN | apply below_drew1 | refine below_set ?_ GE259.out) | exact HB.out))); (case side2 => exact HC1.out); rintro e w' ⟨rfl, ⟨nd, rfl⟩⟩; (try first | exact ⟨rfl, _, World.drewN_drewN _ _ _⟩ | exact ⟨rfl, _, Eq.trans (World.drewN_drewN _ _ _) (congrArg (World.drewN _) (Nat.add_assoc _ _ _))⟩)) | (go_at_call 40; (with_reducible refine (impl_each.calls k _ _ l2 (l1.length : Int) (-100000) 100000 true _ ?side1 ?side2 A14.out).mono ?_); (case side1 => exact Kd.C_below HR2.out (by repeat (first | (with_reducible first | exact HB.out | apply below_alloc | apply pw_below_drewN | apply below_drew1 | refine below_set ?_ GE259.out) | exact HB.out))); (case side2 => exact HC2.out); rintro e w' ⟨rfl, ⟨nd, rfl⟩⟩; (try first | exact ⟨rfl, _, World.drewN_drewN _ _ _⟩ | exact ⟨rfl, _, Eq.trans (World.drewN_drewN _ _ _) (congrArg (World.drewN _) (Nat.add_assoc _ _ _))⟩)) | (go_at_call 34; (with_reducible refine (impl_in.calls a3 1 100 t264 _ A16.out).mono ?_); rintro e w' ⟨rfl, ⟨nd, rfl⟩⟩; (try first | exact ⟨rfl, _, World.drewN_drewN _ _ _⟩ | exact ⟨rfl, _, Eq.trans (World.drewN_drewN _ _ _) (congrArg (World.drewN _) (Nat.add_assoc _ _ _))⟩))))
      go_meet
      case rel => exact ⟨_, (!t264), (by first | rfl | (simp; done) | (simp [*]; done)), H', ⟨by first | omega | exact Nat.le_refl _⟩, ⟨by (with_reducible repeat (first | refine blk_drewN ?_ _ | refine blk_drew ?_ | refine blk_alloc ?_ _)); refine blk_put (cs := #[.int .i64 0]) ?_ 0 _ rfl; exact bT_ BK259⟩, ⟨by repeat (first | (with_reducible first | exact HB.out | apply below_alloc | apply pw_below_drewN | apply below_drew1 | refine below_set ?_ GE259.out) | exact HB.out)⟩⟩
     ·replace c15 := Bool.eq_false_iff.mpr c15
      subst c15
      have H1 : (impl_Levels.j0 k l0 l1 l2 a3 true (l1.length : Int)) = some (r1, r2) := by rw [if_neg (show ¬ (false = true) by decide)] at H; exact H
      clear H; have H := H1; clear H1; have H' := Aside0.mk H; clear H
      go_wp2_with (first | (go_at_call 32; (with_reducible refine (impl_seriesOk.calls k _ _ l0 true _ ?side1 ?side2 A8.out).mono ?_); (case side1 => exact Kd.C_below HR0.out (by repeat (first | (with_reducible first | exact HB.out | apply below_alloc | apply pw_below_drewN | apply below_drew1 | refine below_set ?_ GE259.out) | exact HB.out))); (case side2 => exact HC0.out); rintro e w' ⟨rfl, ⟨nd, rfl⟩⟩; (try first | exact ⟨rfl, _, World.drewN_drewN _ _ _⟩ | exact ⟨rfl, _, Eq.trans (World.drewN_drewN _ _ _) (congrArg (World.drewN _) (Nat.add_assoc _ _ _))⟩); have hcz18_0 : w6.cell? ⟨gb259, 0, none⟩ = some (.int .i64 0) := (blk_cell BK259.out 0).trans rfl; have hfz18_0 := blk_frozen BK259.out 0) | (go_at_call 34; (with_reducible refine (impl_in.calls (l1.length : Int) 1 5 true _ A10.out).mono ?_); rintro e w' ⟨rfl, ⟨nd, rfl⟩⟩; (try first | exact ⟨rfl, _, World.drewN_drewN _ _ _⟩ | exact ⟨rfl, _, Eq.trans (World.drewN_drewN _ _ _) (congrArg (World.drewN _) (Nat.add_assoc _ _ _))⟩)) | (go_at_call 40; (with_reducible refine (impl_each.calls k _ _ l1 (l1.length : Int) (-100000) 100000 true _ ?side1 ?side2 A12.out).mono ?_); (case side1 => exact Kd.C_below HR1.out (by repeat (first | (with_reducible first | exact HB.out | apply below_alloc | apply pw_below_drewN | apply below_drew1 | refine below_set ?_ GE259.out) | exact HB.out))); (case side2 => exact HC1.out); rintro e w' ⟨rfl, ⟨nd, rfl⟩⟩; (try first | exact ⟨rfl, _, World.drewN_drewN _ _ _⟩ | exact ⟨rfl, _, Eq.trans (World.drewN_drewN _ _ _) (congrArg (World.drewN _) (Nat.add_assoc _ _ _))⟩)) | (go_at_call 40; (with_reducible refine (impl_each.calls k _ _ l2 (l1.length : Int) (-100000) 100000 false _ ?side1 ?side2 A14.out).mono ?_); (case side1 => exact Kd.C_below HR2.out (by repeat (first | (with_reducible first | exact HB.out | apply below_alloc | apply pw_below_drewN | apply below_drew1 | refine below_set ?_ GE259.out) | exact HB.out))); (case side2 => exact HC2.out); rintro e w' ⟨rfl, ⟨nd, rfl⟩⟩; (try first | exact ⟨rfl, _, World.drewN_drewN _ _ _⟩ | exact ⟨rfl, _, Eq.trans (World.drewN_drewN _ _ _) (congrArg (World.drewN _) (Nat.add_assoc _ _ _))⟩)))
      repeat (go_quiet (first | (go_at_call 32; (with_reducible refine (impl_seriesOk.calls k _ _ l0 true _ ?side1 ?side2 A8.out).mono ?_); (case side1 => exact Kd.C_below HR0.out (by repeat (first | (with_reducible first | exact HB.out | apply below_alloc | apply pw_below_drewN | apply below_drew1 | refine below_set ?_ GE259.out) | exact HB.out))); (case side2 => exact HC0.out); rintro e w' ⟨rfl, ⟨nd, rfl⟩⟩; (try first | exact ⟨rfl, _, World.drewN_drewN _ _ _⟩ | exact ⟨rfl, _, Eq.trans (World.drewN_drewN _ _ _) (congrArg (World.drewN _) (Nat.add_assoc _ _ _))⟩); have hcz18_0 : w6.cell? ⟨gb259, 0, none⟩ = some (.int .i64 0) := (blk_cell BK259.out 0).trans rfl; have hfz18_0 := blk_frozen BK259.out 0) | (go_at_call 34; (with_reducible refine (impl_in.calls (l1.length : Int) 1 5 true _ A10.out).mono ?_); rintro e w' ⟨rfl, ⟨nd, rfl⟩⟩; (try first | exact ⟨rfl, _, World.drewN_drewN _ _ _⟩ | exact ⟨rfl, _, Eq.trans (World.drewN_drewN _ _ _) (congrArg (World.drewN _) (Nat.add_assoc _ _ _))⟩)) | (go_at_call 40; (with_reducible refine (impl_each.calls k _ _ l1 (l1.length : Int) (-100000) 100000 true _ ?side1 ?side2 A12.out).mono ?_); (case side1 => exact Kd.C_below HR1.out (by repeat (first | (with_reducible first | exact HB.out | apply below_alloc | apply pw_below_drewN | apply below_drew1 | refine below_set ?_ GE259.out) | exact HB.out))); (case side2 => exact HC1.out); rintro e w' ⟨rfl, ⟨nd, rfl⟩⟩; (try first | exact ⟨rfl, _, World.drewN_drewN _ _ _⟩ | exact ⟨rfl, _, Eq.trans (World.drewN_drewN _ _ _) (congrArg (World.drewN _) (Nat.add_assoc _ _ _))⟩)) | (go_at_call 40; (with_reducible refine (impl_each.calls k _ _ l2 (l1.length : Int) (-100000) 100000 false _ ?side1 ?side2 A14.out).mono ?_); (case side1 => exact Kd.C_below HR2.out (by repeat (first | (with_reducible first | exact HB.out | apply below_alloc | apply pw_below_drewN | apply below_drew1 | refine below_set ?_ GE259.out) | exact HB.out))); (case side2 => exact HC2.out); rintro e w' ⟨rfl, ⟨nd, rfl⟩⟩; (try first | exact ⟨rfl, _, World.drewN_drewN _ _ _⟩ | exact ⟨rfl, _, Eq.trans (World.drewN_drewN _ _ _) (congrArg (World.drewN _) (Nat.add_assoc _ _ _))⟩))); try go_wp2_with (first | (go_at_call 32; (with_reducible refine (impl_seriesOk.calls k _ _ l0 true _ ?side1 ?side2 A8.out).mono ?_); (case side1 => exact Kd.C_below HR0.out (by repeat (first | (with_reducible first | exact HB.out | apply below_alloc | apply pw_below_drewN | apply below_drew1 | refine below_set ?_ GE259.out) | exact HB.out))); (case side2 => exact HC0.out); rintro e w' ⟨rfl, ⟨nd, rfl⟩⟩; (try first | exact ⟨rfl, _, World.drewN_drewN _ _ _⟩ | exact ⟨rfl, _, Eq.trans (World.drewN_drewN _ _ _) (congrArg (World.drewN _) (Nat.add_assoc _ _ _))⟩); have hcz18_0 : w6.cell? ⟨gb259, 0, none⟩ = some (.int .i64 0) := (blk_cell BK259.out 0).trans rfl; have hfz18_0 := blk_frozen BK259.out 0) | (go_at_call 34; (with_reducible refine (impl_in.calls (l1.length : Int) 1 5 true _ A10.out).mono ?_); rintro e w' ⟨rfl, ⟨nd, rfl⟩⟩; (try first | exact ⟨rfl, _, World.drewN_drewN _ _ _⟩ | exact ⟨rfl, _, Eq.trans (World.drewN_drewN _ _ _) (congrArg (World.drewN _) (Nat.add_assoc _ _ _))⟩)) | (go_at_call 40; (with_reducible refine (impl_each.calls k _ _ l1 (l1.length : Int) (-100000) 100000 true _ ?side1 ?side2 A12.out).mono ?_); (case side1 => exact Kd.C_below HR1.out (by repeat (first | (with_reducible first | exact HB.out | apply below_alloc | apply pw_below_drewN | apply below_drew1 | refine below_set ?_ GE259.out) | exact HB.out))); (case side2 => exact HC1.out); rintro e w' ⟨rfl, ⟨nd, rfl⟩⟩; (try first | exact ⟨rfl, _, World.drewN_drewN _ _ _⟩ | exact ⟨rfl, _, Eq.trans (World.drewN_drewN _ _ _) (congrArg (World.drewN _) (Nat.add_assoc _ _ _))⟩)) | (go_at_call 40; (with_reducible refine (impl_each.calls k _ _ l2 (l1.length : Int) (-100000) 100000 false _ ?side1 ?side2 A14.out).mono ?_); (case side1 => exact Kd.C_below HR2.out (by repeat (first | (with_reducible first | exact HB.out | apply below_alloc | apply pw_below_drewN | apply below_drew1 | refine below_set ?_ GE259.out) | exact HB.out))); (case side2 => exact HC2.out); rintro e w' ⟨rfl, ⟨nd, rfl⟩⟩; (try first | exact ⟨rfl, _, World.drewN_drewN _ _ _⟩ | exact ⟨rfl, _, Eq.trans (World.drewN_drewN _ _ _) (congrArg (World.drewN _) (Nat.add_assoc _ _ _))⟩))))
      go_meet
      case rel => exact ⟨_, (true), (by first | rfl | (simp; done) | (simp [*]; done)), H', ⟨by first | omega | exact Nat.le_refl _⟩, ⟨by (with_reducible repeat (first | refine blk_drewN ?_ _ | refine blk_drew ?_ | refine blk_alloc ?_ _)); refine blk_put (cs := #[.int .i64 0]) ?_ 0 _ rfl; exact bT_ BK259⟩, ⟨by repeat (first | (with_reducible first | exact HB.out | apply below_alloc | apply pw_below_drewN | apply below_drew1 | refine below_set ?_ GE259.out) | exact HB.out)⟩⟩
    ·replace c13 := Bool.eq_false_iff.mpr c13
     subst c13
     have H1 : (impl_Levels.j0 k l0 l1 l2 a3 true (l1.length : Int)) = some (r1, r2) := by rw [if_neg (show ¬ (false = true) by decide)] at H; exact H
     clear H; have H := H1; clear H1; have H' := Aside0.mk H; clear H
     go_wp2_with (first | (go_at_call 32; (with_reducible refine (impl_seriesOk.calls k _ _ l0 true _ ?side1 ?side2 A8.out).mono ?_); (case side1 => exact Kd.C_below HR0.out (by repeat (first | (with_reducible first | exact HB.out | apply below_alloc | apply pw_below_drewN | apply below_drew1 | refine below_set ?_ GE259.out) | exact HB.out))); (case side2 => exact HC0.out); rintro e w' ⟨rfl, ⟨nd, rfl⟩⟩; (try first | exact ⟨rfl, _, World.drewN_drewN _ _ _⟩ | exact ⟨rfl, _, Eq.trans (World.drewN_drewN _ _ _) (congrArg (World.drewN _) (Nat.add_assoc _ _ _))⟩); have hcz19_0 : w6.cell? ⟨gb259, 0, none⟩ = some (.int .i64 0) := (blk_cell BK259.out 0).trans rfl; have hfz19_0 := blk_frozen BK259.out 0) | (go_at_call 34; (with_reducible refine (impl_in.calls (l1.length : Int) 1 5 true _ A10.out).mono ?_); rintro e w' ⟨rfl, ⟨nd, rfl⟩⟩; (try first | exact ⟨rfl, _, World.drewN_drewN _ _ _⟩ | exact ⟨rfl, _, Eq.trans (World.drewN_drewN _ _ _) (congrArg (World.drewN _) (Nat.add_assoc _ _ _))⟩)) | (go_at_call 40; (with_reducible refine (impl_each.calls k _ _ l1 (l1.length : Int) (-100000) 100000 false _ ?side1 ?side2 A12.out).mono ?_); (case side1 => exact Kd.C_below HR1.out (by repeat (first | (with_reducible first | exact HB.out | apply below_alloc | apply pw_below_drewN | apply below_drew1 | refine below_set ?_ GE259.out) | exact HB.out))); (case side2 => exact HC1.out); rintro e w' ⟨rfl, ⟨nd, rfl⟩⟩; (try first | exact ⟨rfl, _, World.drewN_drewN _ _ _⟩ | exact ⟨rfl, _, Eq.trans (World.drewN_drewN _ _ _) (congrArg (World.drewN _) (Nat.add_assoc _ _ _))⟩)))
     repeat (go_quiet (first | (go_at_call 32; (with_reducible refine (impl_seriesOk.calls k _ _ l0 true _ ?side1 ?side2 A8.out).mono ?_); (case side1 => exact Kd.C_below HR0.out (by repeat (first | (with_reducible first | exact HB.out | apply below_alloc | apply pw_below_drewN | apply below_drew1 | refine below_set ?_ GE259.out) | exact HB.out))); (case side2 => exact HC0.out); rintro e w' ⟨rfl, ⟨nd, rfl⟩⟩; (try first | exact ⟨rfl, _, World.drewN_drewN _ _ _⟩ | exact ⟨rfl, _, Eq.trans (World.drewN_drewN _ _ _) (congrArg (World.drewN _) (Nat.add_assoc _ _ _))⟩); have hcz19_0 : w6.cell? ⟨gb259, 0, none⟩ = some (.int .i64 0) := (blk_cell BK259.out 0).trans rfl; have hfz19_0 := blk_frozen BK259.out 0) | (go_at_call 34; (with_reducible refine (impl_in.calls (l1.length : Int) 1 5 true _ A10.out).mono ?_); rintro e w' ⟨rfl, ⟨nd, rfl⟩⟩; (try first | exact ⟨rfl, _, World.drewN_drewN _ _ _⟩ | exact ⟨rfl, _, Eq.trans (World.drewN_drewN _ _ _) (congrArg (World.drewN _) (Nat.add_assoc _ _ _))⟩)) | (go_at_call 40; (with_reducible refine (impl_each.calls k _ _ l1 (l1.length : Int) (-100000) 100000 false _ ?side1 ?side2 A12.out).mono ?_); (case side1 => exact Kd.C_below HR1.out (by repeat (first | (with_reducible first | exact HB.out | apply below_alloc | apply pw_below_drewN | apply below_drew1 | refine below_set ?_ GE259.out) | exact HB.out))); (case side2 => exact HC1.out); rintro e w' ⟨rfl, ⟨nd, rfl⟩⟩; (try first | exact ⟨rfl, _, World.drewN_drewN _ _ _⟩ | exact ⟨rfl, _, Eq.trans (World.drewN_drewN _ _ _) (congrArg (World.drewN _) (Nat.add_assoc _ _ _))⟩))); try go_wp2_with (first | (go_at_call 32; (with_reducible refine (impl_seriesOk.calls k _ _ l0 true _ ?side1 ?side2 A8.out).mono ?_); (case side1 => exact Kd.C_below HR0.out (by repeat (first | (with_reducible first | exact HB.out | apply below_alloc | apply pw_below_drewN | apply below_drew1 | refine below_set ?_ GE259.out) | exact HB.out))); (case side2 => exact HC0.out); rintro e w' ⟨rfl, ⟨nd, rfl⟩⟩; (try first | exact ⟨rfl, _, World.drewN_drewN _ _ _⟩ | exact ⟨rfl, _, Eq.trans (World.drewN_drewN _ _ _) (congrArg (World.drewN _) (Nat.add_assoc _ _ _))⟩); have hcz19_0 : w6.cell? ⟨gb259, 0, none⟩ = some (.int .i64 0) := (blk_cell BK259.out 0).trans rfl; have hfz19_0 := blk_frozen BK259.out 0) | (go_at_call 34; (with_reducible refine (impl_in.calls (l1.length : Int) 1 5 true _ A10.out).mono ?_); rintro e w' ⟨rfl, ⟨nd, rfl⟩⟩; (try first | exact ⟨rfl, _, World.drewN_drewN _ _ _⟩ | exact ⟨rfl, _, Eq.trans (World.drewN_drewN _ _ _) (congrArg (World.drewN _) (Nat.add_assoc _ _ _))⟩)) | (go_at_call 40; (with_reducible refine (impl_each.calls k _ _ l1 (l1.length : Int) (-100000) 100000 false _ ?side1 ?side2 A12.out).mono ?_); (case side1 => exact Kd.C_below HR1.out (by repeat (first | (with_reducible first | exact HB.out | apply below_alloc | apply pw_below_drewN | apply below_drew1 | refine below_set ?_ GE259.out) | exact HB.out))); (case side2 => exact HC1.out); rintro e w' ⟨rfl, ⟨nd, rfl⟩⟩; (try first | exact ⟨rfl, _, World.drewN_drewN _ _ _⟩ | exact ⟨rfl, _, Eq.trans (World.drewN_drewN _ _ _) (congrArg (World.drewN _) (Nat.add_assoc _ _ _))⟩))))
     go_meet
     case rel => exact ⟨_, (true), (by first | rfl | (simp; done) | (simp [*]; done)), H', ⟨by first | omega | exact Nat.le_refl _⟩, ⟨by (with_reducible repeat (first | refine blk_drewN ?_ _ | refine blk_drew ?_ | refine blk_alloc ?_ _)); refine blk_put (cs := #[.int .i64 0]) ?_ 0 _ rfl; exact bT_ BK259⟩, ⟨by repeat (first | (with_reducible first | exact HB.out | apply below_alloc | apply pw_below_drewN | apply below_drew1 | refine below_set ?_ GE259.out) | exact HB.out)⟩⟩
   ·replace c11 := Bool.eq_false_iff.mpr c11
    subst c11
    have H1 : (impl_Levels.j0 k l0 l1 l2 a3 true (l1.length : Int)) = some (r1, r2) := by rw [if_neg (show ¬ (false = true) by decide)] at H; exact H
    clear H; have H := H1; clear H1; have H' := Aside0.mk H; clear H
    go_wp2_with (first | (go_at_call 32; (with_reducible refine (impl_seriesOk.calls k _ _ l0 true _ ?side1 ?side2 A8.out).mono ?_); (case side1 => exact Kd.C_below HR0.out (by repeat (first | (with_reducible first | exact HB.out | apply below_alloc | apply pw_below_drewN | apply below_drew1 | refine below_set ?_ GE259.out) | exact HB.out))); (case side2 => exact HC0.out); rintro e w' ⟨rfl, ⟨nd, rfl⟩⟩; (try first | exact ⟨rfl, _, World.drewN_drewN _ _ _⟩ | exact ⟨rfl, _, Eq.trans (World.drewN_drewN _ _ _) (congrArg (World.drewN _) (Nat.add_assoc _ _ _))⟩); have hcz20_0 : w6.cell? ⟨gb259, 0, none⟩ = some (.int .i64 0) := (blk_cell BK259.out 0).trans rfl; have hfz20_0 := blk_frozen BK259.out 0) | (go_at_call 34; (with_reducible refine (impl_in.calls (l1.length : Int) 1 5 false _ A10.out).mono ?_); rintro e w' ⟨rfl, ⟨nd, rfl⟩⟩; (try first | exact ⟨rfl, _, World.drewN_drewN _ _ _⟩ | exact ⟨rfl, _, Eq.trans (World.drewN_drewN _ _ _) (congrArg (World.drewN _) (Nat.add_assoc _ _ _))⟩)))
    repeat (go_quiet (first | (go_at_call 32; (with_reducible refine (impl_seriesOk.calls k _ _ l0 true _ ?side1 ?side2 A8.out).mono ?_); (case side1 => exact Kd.C_below HR0.out (by repeat (first | (with_reducible first | exact HB.out | apply below_alloc | apply pw_below_drewN | apply below_drew1 | refine below_set ?_ GE259.out) | exact HB.out))); (case side2 => exact HC0.out); rintro e w' ⟨rfl, ⟨nd, rfl⟩⟩; (try first | exact ⟨rfl, _, World.drewN_drewN _ _ _⟩ | exact ⟨rfl, _, Eq.trans (World.drewN_drewN _ _ _) (congrArg (World.drewN _) (Nat.add_assoc _ _ _))⟩); have hcz20_0 : w6.cell? ⟨gb259, 0, none⟩ = some (.int .i64 0) := (blk_cell BK259.out 0).trans rfl; have hfz20_0 := blk_frozen BK259.out 0) | (go_at_call 34; (with_reducible refine (impl_in.calls (l1.length : Int) 1 5 false _ A10.out).mono ?_); rintro e w' ⟨rfl, ⟨nd, rfl⟩⟩; (try first | exact ⟨rfl, _, World.drewN_drewN _ _ _⟩ | exact ⟨rfl, _, Eq.trans (World.drewN_drewN _ _ _) (congrArg (World.drewN _) (Nat.add_assoc _ _ _))⟩))); try go_wp2_with (first | (go_at_call 32; (with_reducible refine (impl_seriesOk.calls k _ _ l0 true _ ?side1 ?side2 A8.out).mono ?_); (case side1 => exact Kd.C_below HR0.out (by repeat (first | (with_reducible first | exact HB.out | apply below_alloc | apply pw_below_drewN | apply below_drew1 | refine below_set ?_ GE259.out) | exact HB.out))); (case side2 => exact HC0.out); rintro e w' ⟨rfl, ⟨nd, rfl⟩⟩; (try first | exact ⟨rfl, _, World.drewN_drewN _ _ _⟩ | exact ⟨rfl, _, Eq.trans (World.drewN_drewN _ _ _) (congrArg (World.drewN _) (Nat.add_assoc _ _ _))⟩); have hcz20_0 : w6.cell? ⟨gb259, 0, none⟩ = some (.int .i64 0) := (blk_cell BK259.out 0).trans rfl; have hfz20_0 := blk_frozen BK259.out 0) | (go_at_call 34; (with_reducible refine (impl_in.calls (l1.length : Int) 1 5 false _ A10.out).mono ?_); rintro e w' ⟨rfl, ⟨nd, rfl⟩⟩; (try first | exact ⟨rfl, _, World.drewN_drewN _ _ _⟩ | exact ⟨rfl, _, Eq.trans (World.drewN_drewN _ _ _) (congrArg (World.drewN _) (Nat.add_assoc _ _ _))⟩))))
    go_meet
    case rel => exact ⟨_, (true), (by first | rfl | (simp; done) | (simp [*]; done)), H', ⟨by first | omega | exact Nat.le_refl _⟩, ⟨by (with_reducible repeat (first | refine blk_drewN ?_ _ | refine blk_drew ?_ | refine blk_alloc ?_ _)); refine blk_put (cs := #[.int .i64 0]) ?_ 0 _ rfl; exact bT_ BK259⟩, ⟨by repeat (first | (with_reducible first | exact HB.out | apply below_alloc | apply pw_below_drewN | apply below_drew1 | refine below_set ?_ GE259.out) | exact HB.out)⟩⟩
  ·replace c9 := Bool.eq_false_iff.mpr c9
   subst c9
   have H1 : (impl_Levels.j0 k l0 l1 l2 a3 true (l1.length : Int)) = some (r1, r2) := by rw [if_neg (show ¬ (false = true) by decide)] at H; exact H
   clear H; have H := H1; clear H1; have H' := Aside0.mk H; clear H
   go_wp2_with (first | (go_at_call 32; (with_reducible refine (impl_seriesOk.calls k _ _ l0 false _ ?side1 ?side2 A8.out).mono ?_); (case side1 => exact Kd.C_below HR0.out (by repeat (first | (with_reducible first | exact HB.out | apply below_alloc | apply pw_below_drewN | apply below_drew1 | refine below_set ?_ GE259.out) | exact HB.out))); (case side2 => exact HC0.out); rintro e w' ⟨rfl, ⟨nd, rfl⟩⟩; (try first | exact ⟨rfl, _, World.drewN_drewN _ _ _⟩ | exact ⟨rfl, _, Eq.trans (World.drewN_drewN _ _ _) (congrArg (World.drewN _) (Nat.add_assoc _ _ _))⟩)))
   repeat (go_quiet (first | (go_at_call 32; (with_reducible refine (impl_seriesOk.calls k _ _ l0 false _ ?side1 ?side2 A8.out).mono ?_); (case side1 => exact Kd.C_below HR0.out (by repeat (first | (with_reducible first | exact HB.out | apply below_alloc | apply pw_below_drewN | apply below_drew1 | refine below_set ?_ GE259.out) | exact HB.out))); (case side2 => exact HC0.out); rintro e w' ⟨rfl, ⟨nd, rfl⟩⟩; (try first | exact ⟨rfl, _, World.drewN_drewN _ _ _⟩ | exact ⟨rfl, _, Eq.trans (World.drewN_drewN _ _ _) (congrArg (World.drewN _) (Nat.add_assoc _ _ _))⟩))); try go_wp2_with (first | (go_at_call 32; (with_reducible refine (impl_seriesOk.calls k _ _ l0 false _ ?side1 ?side2 A8.out).mono ?_); (case side1 => exact Kd.C_below HR0.out (by repeat (first | (with_reducible first | exact HB.out | apply below_alloc | apply pw_below_drewN | apply below_drew1 | refine below_set ?_ GE259.out) | exact HB.out))); (case side2 => exact HC0.out); rintro e w' ⟨rfl, ⟨nd, rfl⟩⟩; (try first | exact ⟨rfl, _, World.drewN_drewN _ _ _⟩ | exact ⟨rfl, _, Eq.trans (World.drewN_drewN _ _ _) (congrArg (World.drewN _) (Nat.add_assoc _ _ _))⟩))))
   go_meet
   case rel => exact ⟨_, (true), (by first | rfl | (simp; done) | (simp [*]; done)), H', ⟨by first | omega | exact Nat.le_refl _⟩, ⟨by (with_reducible repeat (first | refine blk_drewN ?_ _ | refine blk_drew ?_ | refine blk_alloc ?_ _)); refine blk_put (cs := #[.int .i64 0]) ?_ 0 _ rfl; exact bT_ BK259⟩, ⟨by repeat (first | (with_reducible first | exact HB.out | apply below_alloc | apply pw_below_drewN | apply below_drew1 | refine below_set ?_ GE259.out) | exact HB.out)⟩⟩
 case rest =>
  clear HC5; (try clear c1); (try clear c2); (try clear p2); (try clear c9); (try clear c11); (try clear c13); (try clear c15); (try clear c18); (try clear hcz17_0); (try clear hcz18_0); (try clear hcz19_0); (try clear hcz20_0); (try clear hcz7_0); (try clear hfz17_0); (try clear hfz18_0); (try clear hfz19_0); (try clear hfz20_0); (try clear hfz7_0)
  obtain ⟨kq, x45_4, rfl, HA, HJ4, BK259, HB⟩ := hcut
  cases kq with
  | zero => exact absurd HA.out (by simp [impl_Levels.j0])
  | succ kj4 =>
   have H := HA.out; clear HA
   simp only [impl_Levels.j0] at H
   by_cases c21 : x45_4 = true
   ·subst c21
    have H1 : (some (([] : List Int), false)) = some (r1, r2) := by rw [if_pos rfl] at H; exact H
    clear H; have H := H1; clear H1
    simp only [Option.some.injEq, Prod.mk.injEq] at H
    obtain ⟨rfl, rfl⟩ := H
    go_wp2
    repeat (go_quiet (fail); try go_wp2)
    go_ret2
    exact ⟨_, by first | rfl | (simp [errW_none, errW_some] <;> rfl) | (simp [*, errW_none, errW_some] <;> rfl), by first | exact Kd.R_nil _ _ _ _ _ | exact Kd.N_nil _ _ _ _ _ | exact Kd.V_nil _ _ _ _ _ | exact Kd.Q_nil _ _ _ _ _ | exact Kd.S_nil _ _ _ _ _, by repeat (first | (with_reducible first | exact HB.out | apply below_alloc | apply pw_below_drewN | apply below_drew1 | refine below_set ?_ GE259.out) | exact HB.out)⟩
   ·replace c21 := Bool.eq_false_iff.mpr c21
    subst c21
    have H1 : (impl_Levels.l0 kj4 l0 l1 l2 a3 (l1.length : Int) 0 (l1.length : Int)) = some (r1, r2) := by rw [if_neg (show ¬ (false = true) by decide)] at H; exact H
    clear H; have H := H1; clear H1; have H' := Aside0.mk H; clear H
    go_wp2
    repeat (go_quiet (fail); try go_wp2)
    go_loopg [48] kj4 (fun kq v48 w' => ∃ (x48_2 : Int), v48 = .int .i64 x48_2 ∧ Aside0 (impl_Levels.l0 kq l0 l1 l2 a3 (l1.length : Int) x48_2 (l1.length : Int) = some (r1, r2)) ∧ Aside0 (kq ≤ kj4) ∧ Aside0 (w'.heap[gb259]? = some (.cells #[.int .i64 (l1.length : Int)] 3 (0, 0))) ∧ Aside0 (Below w.heap.size w w'))
    case atStart => exact ⟨(0), (by first | rfl | (simp; done) | (simp [*]; done)), H', ⟨Nat.le_refl _⟩, ⟨by exact bT_ BK259⟩, ⟨by repeat (first | (with_reducible first | exact HB.out | apply below_alloc | apply pw_below_drewN | apply below_drew1 | refine below_set ?_ GE259.out) | exact HB.out)⟩⟩
    case round =>
     clear H'; (try clear c1); (try clear c2); (try clear p2); (try clear c9); (try clear c11); (try clear c13); (try clear c15); (try clear c18); (try clear c21); (try clear hcz17_0); (try clear hcz18_0); (try clear hcz19_0); (try clear hcz20_0); (try clear hcz7_0); (try clear hfz17_0); (try clear hfz18_0); (try clear hfz19_0); (try clear hfz20_0); (try clear hfz7_0); (try clear p2)
     obtain ⟨x48_2, rfl, HA, HK2, BK259, HB⟩ := hrel
     cases gk with
     | zero => exact absurd HA.out (by simp [impl_Levels.l0])
     | succ k2 =>
      have H := HA.out; clear HA
      simp only [impl_Levels.l0] at H
      by_cases c22 : x48_2 < (l1.length : Int)
      ·rw [if_pos c22] at H
       have c22b0 : decide (x48_2 < (l1.length : Int)) = true := decide_eq_true c22
       clear c22
       by_cases c23 : 0 ≤ x48_2
       ·rw [if_pos c23] at H
        have c23b0 : decide (0 ≤ x48_2) = true := decide_eq_true c23
        clear c23
        by_cases c24 : x48_2 < (l2.length : Int)
        ·rw [if_pos c24] at H
         have c24b0 : decide (x48_2 < (l2.length : Int)) = true := decide_eq_true c24
         clear c24
         by_cases c25 : x48_2 < (l1.length : Int)
         ·rw [if_pos c25] at H
          have c25b0 : decide (x48_2 < (l1.length : Int)) = true := decide_eq_true c25
          clear c25
          by_cases c26 : (rd l2 x48_2) > (rd l1 x48_2)
          ·rw [if_pos c26] at H
           have c26b0 : decide ((rd l1 x48_2) < (rd l2 x48_2)) = true := decide_eq_true c26
           clear c26
           simp only [Option.some.injEq, Prod.mk.injEq] at H
           obtain ⟨rfl, rfl⟩ := H
           have p265 : 0 ≤ (x48_2 : Int) := of_decide_eq_true (by first | (with_reducible assumption) | assumption)
           have q265 : x48_2 < (l2.length : Int) := of_decide_eq_true (by first | (with_reducible assumption) | assumption)
           obtain ⟨ad265, e265, hx265_0⟩ := Kd.at_int HR2.out x48_2 p265 q265
           cases e265
           replace hx265_0 := (HB.out.cell (World.block_lt_of_cell? w _ hx265_0)).trans hx265_0
           replace p265 := eq_true p265; replace q265 := eq_true q265
           have p266 : 0 ≤ (x48_2 : Int) := of_decide_eq_true (by first | (with_reducible assumption) | assumption)
           have q266 : x48_2 < (l1.length : Int) := of_decide_eq_true (by first | (with_reducible assumption) | assumption)
           obtain ⟨ad266, e266, hx266_0⟩ := Kd.at_int HR1.out x48_2 p266 q266
           cases e266
           replace hx266_0 := (HB.out.cell (World.block_lt_of_cell? w _ hx266_0)).trans hx266_0
           replace p266 := eq_true p266; replace q266 := eq_true q266
           go_wp2
           repeat (go_quiet (fail); try go_wp2)
           go_ret2
           exact ⟨_, by first | rfl | (simp [errW_none, errW_some] <;> rfl) | (simp [*, errW_none, errW_some] <;> rfl), by first | exact Kd.R_nil _ _ _ _ _ | exact Kd.N_nil _ _ _ _ _ | exact Kd.V_nil _ _ _ _ _ | exact Kd.Q_nil _ _ _ _ _ | exact Kd.S_nil _ _ _ _ _, by repeat (first | (with_reducible first | exact HB.out | apply below_alloc | apply pw_below_drewN | apply below_drew1 | refine below_set ?_ GE259.out) | exact HB.out)⟩
          ·rw [if_neg c26] at H
           have c26b0 : decide ((rd l1 x48_2) < (rd l2 x48_2)) = false := decide_eq_false c26
           clear c26
           by_cases c27 : x48_2 > 0
           ·rw [if_pos c27] at H
            have c27b0 : decide (0 < x48_2) = true := decide_eq_true c27
            clear c27
            obtain ⟨ji28, hji28⟩ : ∃ j_ : Int, (wrap64 (x48_2 - 1)) = j_ := ⟨_, rfl⟩
            replace H : (if 0 ≤ (ji28) then (if (ji28) < (l1.length : Int) then (if (rd l1 x48_2) ≤ (rd l1 (ji28)) then (some (([] : List Int), false)) else (if (ji28) < (l2.length : Int) then (if (rd l2 x48_2) < (rd l2 (ji28)) then (some (([] : List Int), false)) else (impl_Levels.l0 k2 l0 l1 l2 a3 (l1.length : Int) (wrap64 (x48_2 + 1)) (l1.length : Int))) else (none))) else (none)) else (none)) = some (r1, r2) := by first | (rw [hji28] at H; exact H) | (simp only [hji28] at H ⊢; exact H)
            have hji28w : (IntKind.i64.wrap (x48_2 - 1)) = ji28 := (i64_w _).trans hji28
            by_cases c29 : 0 ≤ (ji28)
            ·rw [if_pos c29] at H
             have c29b0 : decide (0 ≤ (ji28)) = true := decide_eq_true c29
             clear c29
             by_cases c30 : (ji28) < (l1.length : Int)
             ·rw [if_pos c30] at H
              have c30b0 : decide ((ji28) < (l1.length : Int)) = true := decide_eq_true c30
              clear c30
              by_cases c31 : (rd l1 x48_2) ≤ (rd l1 (ji28))
              ·rw [if_pos c31] at H
               have c31b0 : decide ((rd l1 x48_2) ≤ (rd l1 (ji28))) = true := decide_eq_true c31
               clear c31
               simp only [Option.some.injEq, Prod.mk.injEq] at H
               obtain ⟨rfl, rfl⟩ := H
               have p265 : 0 ≤ (x48_2 : Int) := of_decide_eq_true (by first | (with_reducible assumption) | assumption)
               have q265 : x48_2 < (l2.length : Int) := of_decide_eq_true (by first | (with_reducible assumption) | assumption)
               obtain ⟨ad265, e265, hx265_0⟩ := Kd.at_int HR2.out x48_2 p265 q265
               cases e265
               replace hx265_0 := (HB.out.cell (World.block_lt_of_cell? w _ hx265_0)).trans hx265_0
               replace p265 := eq_true p265; replace q265 := eq_true q265
               have p266 : 0 ≤ (x48_2 : Int) := of_decide_eq_true (by first | (with_reducible assumption) | assumption)
               have q266 : x48_2 < (l1.length : Int) := of_decide_eq_true (by first | (with_reducible assumption) | assumption)
               obtain ⟨ad266, e266, hx266_0⟩ := Kd.at_int HR1.out x48_2 p266 q266
               cases e266
               replace hx266_0 := (HB.out.cell (World.block_lt_of_cell? w _ hx266_0)).trans hx266_0
               replace p266 := eq_true p266; replace q266 := eq_true q266
               have p267 : 0 ≤ (x48_2 : Int) := of_decide_eq_true (by first | (with_reducible assumption) | assumption)
               have q267 : x48_2 < (l1.length : Int) := of_decide_eq_true (by first | (with_reducible assumption) | assumption)
               obtain ⟨ad267, e267, hx267_0⟩ := Kd.at_int HR1.out x48_2 p267 q267
               obtain rfl : ad266 = ad267 := (by injection e267)
               replace hx267_0 := (HB.out.cell (World.block_lt_of_cell? w _ hx267_0)).trans hx267_0
               replace p267 := eq_true p267; replace q267 := eq_true q267
               have p268 : 0 ≤ ((ji28) : Int) := of_decide_eq_true (by first | (with_reducible assumption) | assumption)
               have q268 : (ji28) < (l1.length : Int) := of_decide_eq_true (by first | (with_reducible assumption) | assumption)
               obtain ⟨ad268, e268, hx268_0⟩ := Kd.at_int HR1.out (ji28) p268 q268
               obtain rfl : ad266 = ad268 := (by injection e268)
               replace hx268_0 := (HB.out.cell (World.block_lt_of_cell? w _ hx268_0)).trans hx268_0
               replace p268 := eq_true p268; replace q268 := eq_true q268
               go_wp2
               repeat (go_quiet (fail); try go_wp2)
               go_ret2
               exact ⟨_, by first | rfl | (simp [errW_none, errW_some] <;> rfl) | (simp only [← hji28]; first | rfl | (simp [errW_none, errW_some] <;> rfl)) | (simp [*, errW_none, errW_some] <;> rfl), by first | exact Kd.R_nil _ _ _ _ _ | exact Kd.N_nil _ _ _ _ _ | exact Kd.V_nil _ _ _ _ _ | exact Kd.Q_nil _ _ _ _ _ | exact Kd.S_nil _ _ _ _ _, by repeat (first | (with_reducible first | exact HB.out | apply below_alloc | apply pw_below_drewN | apply below_drew1 | refine below_set ?_ GE259.out) | exact HB.out)⟩
              ·rw [if_neg c31] at H
               have c31b0 : decide ((rd l1 x48_2) ≤ (rd l1 (ji28))) = false := decide_eq_false c31
               clear c31
               by_cases c32 : (ji28) < (l2.length : Int)
               ·rw [if_pos c32] at H
                have c32b0 : decide ((ji28) < (l2.length : Int)) = true := decide_eq_true c32
                clear c32
                by_cases c33 : (rd l2 x48_2) < (rd l2 (ji28))
                ·rw [if_pos c33] at H
                 have c33b0 : decide ((rd l2 x48_2) < (rd l2 (ji28))) = true := decide_eq_true c33
                 clear c33
                 simp only [Option.some.injEq, Prod.mk.injEq] at H
                 obtain ⟨rfl, rfl⟩ := H
                 have p265 : 0 ≤ (x48_2 : Int) := of_decide_eq_true (by first | (with_reducible assumption) | assumption)
                 have q265 : x48_2 < (l2.length : Int) := of_decide_eq_true (by first | (with_reducible assumption) | assumption)
                 obtain ⟨ad265, e265, hx265_0⟩ := Kd.at_int HR2.out x48_2 p265 q265
                 cases e265
                 replace hx265_0 := (HB.out.cell (World.block_lt_of_cell? w _ hx265_0)).trans hx265_0
                 replace p265 := eq_true p265; replace q265 := eq_true q265
                 have p266 : 0 ≤ (x48_2 : Int) := of_decide_eq_true (by first | (with_reducible assumption) | assumption)
                 have q266 : x48_2 < (l1.length : Int) := of_decide_eq_true (by first | (with_reducible assumption) | assumption)
                 obtain ⟨ad266, e266, hx266_0⟩ := Kd.at_int HR1.out x48_2 p266 q266
                 cases e266
                 replace hx266_0 := (HB.out.cell (World.block_lt_of_cell? w _ hx266_0)).trans hx266_0
                 replace p266 := eq_true p266; replace q266 := eq_true q266
                 have p267 : 0 ≤ (x48_2 : Int) := of_decide_eq_true (by first | (with_reducible assumption) | assumption)
                 have q267 : x48_2 < (l1.length : Int) := of_decide_eq_true (by first | (with_reducible assumption) | assumption)
                 obtain ⟨ad267, e267, hx267_0⟩ := Kd.at_int HR1.out x48_2 p267 q267
                 obtain rfl : ad266 = ad267 := (by injection e267)
                 replace hx267_0 := (HB.out.cell (World.block_lt_of_cell? w _ hx267_0)).trans hx267_0
                 replace p267 := eq_true p267; replace q267 := eq_true q267
                 have p268 : 0 ≤ ((ji28) : Int) := of_decide_eq_true (by first | (with_reducible assumption) | assumption)
                 have q268 : (ji28) < (l1.length : Int) := of_decide_eq_true (by first | (with_reducible assumption) | assumption)
                 obtain ⟨ad268, e268, hx268_0⟩ := Kd.at_int HR1.out (ji28) p268 q268
                 obtain rfl : ad266 = ad268 := (by injection e268)
                 replace hx268_0 := (HB.out.cell (World.block_lt_of_cell? w _ hx268_0)).trans hx268_0
                 replace p268 := eq_true p268; replace q268 := eq_true q268
                 have p269 : 0 ≤ (x48_2 : Int) := of_decide_eq_true (by first | (with_reducible assumption) | assumption)
                 have q269 : x48_2 < (l2.length : Int) := of_decide_eq_true (by first | (with_reducible assumption) | assumption)
                 obtain ⟨ad269, e269, hx269_0⟩ := Kd.at_int HR2.out x48_2 p269 q269
                 obtain rfl : ad265 = ad269 := (by injection e269)
                 replace hx269_0 := (HB.out.cell (World.block_lt_of_cell? w _ hx269_0)).trans hx269_0
                 replace p269 := eq_true p269; replace q269 := eq_true q269
                 have p270 : 0 ≤ ((ji28) : Int) := of_decide_eq_true (by first | (with_reducible assumption) | assumption)
                 have q270 : (ji28) < (l2.length : Int) := of_decide_eq_true (by first | (with_reducible assumption) | assumption)
                 obtain ⟨ad270, e270, hx270_0⟩ := Kd.at_int HR2.out (ji28) p270 q270
                 obtain rfl : ad265 = ad270 := (by injection e270)
                 replace hx270_0 := (HB.out.cell (World.block_lt_of_cell? w _ hx270_0)).trans hx270_0
                 replace p270 := eq_true p270; replace q270 := eq_true q270
                 go_wp2
                 repeat (go_quiet (fail); try go_wp2)
                 go_ret2
                 exact ⟨_, by first | rfl | (simp [errW_none, errW_some] <;> rfl) | (simp only [← hji28]; first | rfl | (simp [errW_none, errW_some] <;> rfl)) | (simp [*, errW_none, errW_some] <;> rfl), by first | exact Kd.R_nil _ _ _ _ _ | exact Kd.N_nil _ _ _ _ _ | exact Kd.V_nil _ _ _ _ _ | exact Kd.Q_nil _ _ _ _ _ | exact Kd.S_nil _ _ _ _ _, by repeat (first | (with_reducible first | exact HB.out | apply below_alloc | apply pw_below_drewN | apply below_drew1 | refine below_set ?_ GE259.out) | exact HB.out)⟩
                ·rw [if_neg c33] at H
                 have c33b0 : decide ((rd l2 x48_2) < (rd l2 (ji28))) = false := decide_eq_false c33
                 clear c33; have H' := Aside0.mk H; clear H
                 have p265 : 0 ≤ (x48_2 : Int) := of_decide_eq_true (by first | (with_reducible assumption) | assumption)
                 have q265 : x48_2 < (l2.length : Int) := of_decide_eq_true (by first | (with_reducible assumption) | assumption)
                 obtain ⟨ad265, e265, hx265_0⟩ := Kd.at_int HR2.out x48_2 p265 q265
                 cases e265
                 replace hx265_0 := (HB.out.cell (World.block_lt_of_cell? w _ hx265_0)).trans hx265_0
                 replace p265 := eq_true p265; replace q265 := eq_true q265
                 have p266 : 0 ≤ (x48_2 : Int) := of_decide_eq_true (by first | (with_reducible assumption) | assumption)
                 have q266 : x48_2 < (l1.length : Int) := of_decide_eq_true (by first | (with_reducible assumption) | assumption)
                 obtain ⟨ad266, e266, hx266_0⟩ := Kd.at_int HR1.out x48_2 p266 q266
                 cases e266
                 replace hx266_0 := (HB.out.cell (World.block_lt_of_cell? w _ hx266_0)).trans hx266_0
                 replace p266 := eq_true p266; replace q266 := eq_true q266
                 have p267 : 0 ≤ (x48_2 : Int) := of_decide_eq_true (by first | (with_reducible assumption) | assumption)
                 have q267 : x48_2 < (l1.length : Int) := of_decide_eq_true (by first | (with_reducible assumption) | assumption)
                 obtain ⟨ad267, e267, hx267_0⟩ := Kd.at_int HR1.out x48_2 p267 q267
                 obtain rfl : ad266 = ad267 := (by injection e267)
                 replace hx267_0 := (HB.out.cell (World.block_lt_of_cell? w _ hx267_0)).trans hx267_0
                 replace p267 := eq_true p267; replace q267 := eq_true q267
                 have p268 : 0 ≤ ((ji28) : Int) := of_decide_eq_true (by first | (with_reducible assumption) | assumption)
                 have q268 : (ji28) < (l1.length : Int) := of_decide_eq_true (by first | (with_reducible assumption) | assumption)
                 obtain ⟨ad268, e268, hx268_0⟩ := Kd.at_int HR1.out (ji28) p268 q268
                 obtain rfl : ad266 = ad268 := (by injection e268)
                 replace hx268_0 := (HB.out.cell (World.block_lt_of_cell? w _ hx268_0)).trans hx268_0
                 replace p268 := eq_true p268; replace q268 := eq_true q268
                 have p269 : 0 ≤ (x48_2 : Int) := of_decide_eq_true (by first | (with_reducible assumption) | assumption)
                 have q269 : x48_2 < (l2.length : Int) := of_decide_eq_true (by first | (with_reducible assumption) | assumption)
                 obtain ⟨ad269, e269, hx269_0⟩ := Kd.at_int HR2.out x48_2 p269 q269
                 obtain rfl : ad265 = ad269 := (by injection e269)
                 replace hx269_0 := (HB.out.cell (World.block_lt_of_cell? w _ hx269_0)).trans hx269_0
                 replace p269 := eq_true p269; replace q269 := eq_true q269
                 have p270 : 0 ≤ ((ji28) : Int) := of_decide_eq_true (by first | (with_reducible assumption) | assumption)
                 have q270 : (ji28) < (l2.length : Int) := of_decide_eq_true (by first | (with_reducible assumption) | assumption)
                 obtain ⟨ad270, e270, hx270_0⟩ := Kd.at_int HR2.out (ji28) p270 q270
                 obtain rfl : ad265 = ad270 := (by injection e270)
                 replace hx270_0 := (HB.out.cell (World.block_lt_of_cell? w _ hx270_0)).trans hx270_0
                 replace p270 := eq_true p270; replace q270 := eq_true q270
                 go_wp2
                 repeat (go_quiet (fail); try go_wp2)
                 go_roundg k2
                 case measure => have := HJ4.out; have := HK2.out; omega
                 case rel => exact ⟨(wrap64 (x48_2 + 1)), (by first | rfl | (simp; done) | (simp [*]; done)), H', ⟨by have := HJ4.out; have := HK2.out; omega⟩, ⟨by exact bT_ BK259⟩, ⟨by repeat (first | (with_reducible first | exact HB.out | apply below_alloc | apply pw_below_drewN | apply below_drew1 | refine below_set ?_ GE259.out) | exact HB.out)⟩⟩
               ·rw [if_neg c32] at H
                exact absurd H (by simp)
             ·rw [if_neg c30] at H
              exact absurd H (by simp)
            ·rw [if_neg c29] at H
             exact absurd H (by simp)
           ·rw [if_neg c27] at H
            have c27b0 : decide (0 < x48_2) = false := decide_eq_false c27
            clear c27; have H' := Aside0.mk H; clear H
            have p265 : 0 ≤ (x48_2 : Int) := of_decide_eq_true (by first | (with_reducible assumption) | assumption)
            have q265 : x48_2 < (l2.length : Int) := of_decide_eq_true (by first | (with_reducible assumption) | assumption)
            obtain ⟨ad265, e265, hx265_0⟩ := Kd.at_int HR2.out x48_2 p265 q265
            cases e265
            replace hx265_0 := (HB.out.cell (World.block_lt_of_cell? w _ hx265_0)).trans hx265_0
            replace p265 := eq_true p265; replace q265 := eq_true q265
            have p266 : 0 ≤ (x48_2 : Int) := of_decide_eq_true (by first | (with_reducible assumption) | assumption)
            have q266 : x48_2 < (l1.length : Int) := of_decide_eq_true (by first | (with_reducible assumption) | assumption)
            obtain ⟨ad266, e266, hx266_0⟩ := Kd.at_int HR1.out x48_2 p266 q266
            cases e266
            replace hx266_0 := (HB.out.cell (World.block_lt_of_cell? w _ hx266_0)).trans hx266_0
            replace p266 := eq_true p266; replace q266 := eq_true q266
            go_wp2
            repeat (go_quiet (fail); try go_wp2)
            go_roundg k2
            case measure => have := HJ4.out; have := HK2.out; omega
            case rel => exact ⟨(wrap64 (x48_2 + 1)), (by first | rfl | (simp; done) | (simp [*]; done)), H', ⟨by have := HJ4.out; have := HK2.out; omega⟩, ⟨by exact bT_ BK259⟩, ⟨by repeat (first | (with_reducible first | exact HB.out | apply below_alloc | apply pw_below_drewN | apply below_drew1 | refine below_set ?_ GE259.out) | exact HB.out)⟩⟩
         ·rw [if_neg c25] at H
          exact absurd H (by simp)
        ·rw [if_neg c24] at H
         exact absurd H (by simp)
       ·rw [if_neg c23] at H
        exact absurd H (by simp)
      ·rw [if_neg c22] at H
       have c22b0 : decide (x48_2 < (l1.length : Int)) = false := decide_eq_false c22
       clear c22
       obtain ⟨y271, hy271⟩ : ∃ y_ : List Int, y_ = (([] : List Int)) := ⟨_, rfl⟩
       replace H : (impl_Levels.l1 k2 l1 l2 a3 0 0 y271 l0 (l0.length : Int) 0 (l1.length : Int)) = some (r1, r2) := by first | (rw [hy271]; with_reducible exact H) | (have H2_ := (Option.bind_some _ _).symm.trans H; rw [hy271]; with_reducible exact H2_) | (have H2_ := (Option.bind_some _ _).symm.trans H; with_reducible exact H2_) | with_reducible exact H | (rw [hy271]; exact H) | exact H
       have Ny271 := Aside0.mk hy271; clear hy271; have H' := Aside0.mk H; clear H
       go_wp2_with (first | ((with_reducible refine gate_dst (N := 90) rfl ?_); refine Kd.R_lit (Kd.int .i64) _ 2 ?hg (N := 90) ?hd (xs := ([] : List Int)) (inner := []) (ok := fun _ => True) (okp := fun _ => True) ?hr ?hp (fun _ hk => hk) trivial (Below.refl _ _) (Nat.le_refl _) (by simp) ?_; (case hd => rfl); (case hg => rfl); (case hr => first | (go_simp; done) | (go_simp; rfl)); (case hp => exact (Reps.none _ _)); intro v272 w34 ho35 hb hg_ hnew_; clear hg_ hnew_; (first | rw [← Ny271.out] at ho35 | (simp only [Int.reduceToNat] at ho35; rw [← Ny271.out] at ho35)); have HO273 := rL_ ho35 HB; replace BK259 := bB_ BK259 hb; replace HB := bS_ HB hb; clear hb ho35))
       repeat (go_quiet (fail); try go_wp2_with (first | ((with_reducible refine gate_dst (N := 90) rfl ?_); refine Kd.R_lit (Kd.int .i64) _ 2 ?hg (N := 90) ?hd (xs := ([] : List Int)) (inner := []) (ok := fun _ => True) (okp := fun _ => True) ?hr ?hp (fun _ hk => hk) trivial (Below.refl _ _) (Nat.le_refl _) (by simp) ?_; (case hd => rfl); (case hg => rfl); (case hr => first | (go_simp; done) | (go_simp; rfl)); (case hp => exact (Reps.none _ _)); intro v272 w34 ho35 hb hg_ hnew_; clear hg_ hnew_; (first | rw [← Ny271.out] at ho35 | (simp only [Int.reduceToNat] at ho35; rw [← Ny271.out] at ho35)); have HO273 := rL_ ho35 HB; replace BK259 := bB_ BK259 hb; replace HB := bS_ HB hb; clear hb ho35)))
       go_loopg [13, 14, 15, 93] k2 (fun kq v13 v14 v15 v93 w' => ∃ (x13_3 : Int) (x14_3 : Int) (x15_3 : List Int) (x93_3 : Int), v13 = .int .i64 x13_3 ∧ v14 = .int .i64 x14_3 ∧ v93 = .int .i64 x93_3 ∧ Aside0 (impl_Levels.l1 kq l1 l2 a3 x13_3 x14_3 x15_3 l0 (l0.length : Int) x93_3 (l1.length : Int) = some (r1, r2)) ∧ Aside0 (kq ≤ k2) ∧ Aside0 (Kd.R (Kd.int .i64) 2 w' w.heap.size (fun _ => True) v15 x15_3) ∧ Aside0 (w'.heap[gb259]? = some (.cells #[.int .i64 (l1.length : Int)] 3 (0, 0))) ∧ Aside0 (Below w.heap.size w w'))
       case atStart => exact ⟨(0), (0), (y271), (0), (by first | rfl | (simp; done) | (simp [*]; done)), (by first | rfl | (simp; done) | (simp [*]; done)), (by first | rfl | (simp; done) | (simp [*]; done)), H', ⟨Nat.le_refl _⟩, ⟨by (with_reducible repeat (first | apply Kd.R_alloc | apply Kd.R_drewN | apply Kd.R_drew)); exact HO273.out⟩, ⟨by exact bT_ BK259⟩, ⟨by repeat (first | (with_reducible first | exact HB.out | apply below_alloc | apply pw_below_drewN | apply below_drew1 | refine below_set ?_ GE259.out) | exact HB.out)⟩⟩
       case round =>
        clear H'; (try clear c1); (try clear c2); (try clear p2); (try clear q2); (try clear hx2); (try clear c3); (try clear p6); (try clear c9); (try clear c11); (try clear c13); (try clear c15); (try clear c18); (try clear c21); (try clear c22); (try clear c22b0); (try clear c23); (try clear c23b0); (try clear c24); (try clear c24b0); (try clear c25); (try clear c25b0); (try clear c26); (try clear c26b0); (try clear p26); (try clear q26); (try clear hx26); (try clear c27); (try clear c27b0); (try clear p27); (try clear q27); (try clear hx27); (try clear c29); (try clear c29b0); (try clear c30); (try clear c30b0); (try clear c31); (try clear c31b0); (try clear c32); (try clear c32b0); (try clear c33); (try clear c33b0); (try clear hcz17_0); (try clear hcz18_0); (try clear hcz19_0); (try clear hcz20_0); (try clear hcz7_0); (try clear hfz17_0); (try clear hfz18_0); (try clear hfz19_0); (try clear hfz20_0); (try clear hfz7_0); (try clear hx265_0); (try clear hx266_0); (try clear hx267_0); (try clear hx268_0); (try clear hx269_0); (try clear hx270_0); (try clear p2); (try clear p265); (try clear p266); (try clear p267); (try clear p268); (try clear p269); (try clear p270); (try clear q265); (try clear q266); (try clear q267); (try clear q268); (try clear q269); (try clear q270)
        obtain ⟨x13_3, x14_3, x15_3, x93_3, rfl, rfl, rfl, HA, HK3, HO_15, BK259, HB⟩ := hrel
        cases gk with
        | zero => exact absurd HA.out (by simp [impl_Levels.l1])
        | succ k3 =>
         have H := HA.out; clear HA
         simp only [impl_Levels.l1] at H
         by_cases c36 : x93_3 < (l0.length : Int)
         ·rw [if_pos c36] at H
          have c36b0 : decide (x93_3 < (l0.length : Int)) = true := decide_eq_true c36
          clear c36
          by_cases c37 : 0 ≤ x93_3
          ·rw [if_pos c37] at H
           have c37b0 : decide (0 ≤ x93_3) = true := decide_eq_true c37
           clear c37
           by_cases c38 : x93_3 < (l0.length : Int)
           ·rw [if_pos c38] at H
            have c38b0 : decide (x93_3 < (l0.length : Int)) = true := decide_eq_true c38
            clear c38; replace H := Option.bind_eq_some_iff.mp H
            obtain ⟨t275, A390, H⟩ := H
            replace H : (if t275 > x13_3 then (if x15_3.length < 17592186044416 then (impl_Levels.l1 k3 l1 l2 a3 t275 0 (x15_3 ++ [t275]) l0 (l0.length : Int) (wrap64 (x93_3 + 1)) (l1.length : Int)) else (none)) else (if x13_3 > 0 then (if 0 ≤ (wrap64 (x13_3 - 1)) then (if (wrap64 (x13_3 - 1)) < (l2.length : Int) then (impl_Levels.j3 k3 l1 l2 a3 x13_3 x14_3 x15_3 (rd l0 x93_3) l0 (l0.length : Int) x93_3 (decide ((rd l0 x93_3) < (rd l2 (wrap64 (x13_3 - 1))))) (l1.length : Int)) else (none)) else (none)) else (impl_Levels.j3 k3 l1 l2 a3 x13_3 x14_3 x15_3 (rd l0 x93_3) l0 (l0.length : Int) x93_3 false (l1.length : Int)))) = some (r1, r2) := H
            have A39 := Aside0.mk A390; clear A390
            by_cases c40 : t275 > x13_3
            ·rw [if_pos c40] at H
             have c40b0 : decide (x13_3 < t275) = true := decide_eq_true c40
             clear c40
             by_cases c41 : x15_3.length < 17592186044416
             ·rw [if_pos c41] at H
              have LMc41 := Aside0.mk c41; clear c41
              obtain ⟨y276, hy276⟩ : ∃ y_ : List Int, y_ = (x15_3 ++ [t275]) := ⟨_, rfl⟩
              replace H : (impl_Levels.l1 k3 l1 l2 a3 t275 0 y276 l0 (l0.length : Int) (wrap64 (x93_3 + 1)) (l1.length : Int)) = some (r1, r2) := by first | (rw [hy276]; with_reducible exact H) | (have H2_ := (Option.bind_some _ _).symm.trans H; rw [hy276]; with_reducible exact H2_) | (have H2_ := (Option.bind_some _ _).symm.trans H; with_reducible exact H2_) | with_reducible exact H | (rw [hy276]; exact H) | exact H
              have Ny276 := Aside0.mk hy276; clear hy276; have H' := Aside0.mk H; clear H
              have p274 : 0 ≤ (x93_3 : Int) := of_decide_eq_true (by first | (with_reducible assumption) | assumption)
              have q274 : x93_3 < (l0.length : Int) := of_decide_eq_true (by first | (with_reducible assumption) | assumption)
              obtain ⟨ad274, e274, hx274_0⟩ := Kd.at_int HR0.out x93_3 p274 q274
              cases e274
              replace hx274_0 := (HB.out.cell (World.block_lt_of_cell? w _ hx274_0)).trans hx274_0
              replace p274 := eq_true p274; replace q274 := eq_true q274
              have hcz42_0 : wr.cell? ⟨gb259, 0, none⟩ = some (.int .i64 (l1.length : Int)) := (blk_cell BK259.out 0).trans rfl
              have hfz42_0 := blk_frozen BK259.out 0
              go_wp2_with (first | (go_at_call 41; (with_reducible refine (impl_Levels_1.calls k3 _ _ l1 (rd l0 x93_3) (l1.length : Int) t275 _ gb259 ((blk_cell (bT_ BK259) 0).trans rfl) ?side1 ?side2 A39.out).mono ?_); (case side1 => exact cB_ HR1 HB); (case side2 => exact HC1.out); rintro e w' ⟨rfl, ⟨nd, rfl⟩⟩; (try first | exact ⟨rfl, _, World.drewN_drewN _ _ _⟩ | exact ⟨rfl, _, Eq.trans (World.drewN_drewN _ _ _) (congrArg (World.drewN _) (Nat.add_assoc _ _ _))⟩)) | ((with_reducible refine gate_builtin (b := .append) (xs := #[.tmp 127, .tmp 129]) rfl ?_); at_builtin; refine Kd.R_append (Kd.int .i64) (w0 := w) w.heap.size rfl (.tmp 127) (.tmp 129) 24 2 (.int .i64 0) 8 rfl Try.underlying24 info2 rfl (by decide) (by omega) u15 x15_3 t275 [.int .i64 t275] (fun _ => True) (fun _ => False) rfl rfl ?aP (fun _ hk => hk.elim) ?aF ?aO ?aB ?aS ?aL ?_; (case aP => exact rfl); (case aB => exact (by repeat (first | (with_reducible first | exact HB.out | apply below_alloc | apply pw_below_drewN | apply below_drew1 | refine below_set ?_ GE259.out) | exact HB.out))); (case aF => exact (fun _ _ => trivial)); (case aO => exact (rT_ HO_15)); (case aS => exact (below_size (by repeat (first | (with_reducible first | exact HB.out | apply below_alloc | apply pw_below_drewN | apply below_drew1 | refine below_set ?_ GE259.out) | exact HB.out)))); (case aL => have := LMc41.out; omega); intro v277 w43 ho hb hg hat; rw [← Ny276.out] at ho; replace BK259 := Aside0.mk (blk_grown (g := gb259) (o := .cells #[.int .i64 (l1.length : Int)] 3 (0, 0)) (bT_ BK259) hg (Kd.R_ne HO_15.out BK259.out (by decide))); replace HB := Aside0.mk (hb); have HO278 := Aside0.mk (ho); clear HO_15; clear ho hb hg hat))
              repeat (go_quiet (first | (go_at_call 41; (with_reducible refine (impl_Levels_1.calls k3 _ _ l1 (rd l0 x93_3) (l1.length : Int) t275 _ gb259 ((blk_cell (bT_ BK259) 0).trans rfl) ?side1 ?side2 A39.out).mono ?_); (case side1 => exact cB_ HR1 HB); (case side2 => exact HC1.out); rintro e w' ⟨rfl, ⟨nd, rfl⟩⟩; (try first | exact ⟨rfl, _, World.drewN_drewN _ _ _⟩ | exact ⟨rfl, _, Eq.trans (World.drewN_drewN _ _ _) (congrArg (World.drewN _) (Nat.add_assoc _ _ _))⟩)) ); try go_wp2_with (first | (go_at_call 41; (with_reducible refine (impl_Levels_1.calls k3 _ _ l1 (rd l0 x93_3) (l1.length : Int) t275 _ gb259 ((blk_cell (bT_ BK259) 0).trans rfl) ?side1 ?side2 A39.out).mono ?_); (case side1 => exact cB_ HR1 HB); (case side2 => exact HC1.out); rintro e w' ⟨rfl, ⟨nd, rfl⟩⟩; (try first | exact ⟨rfl, _, World.drewN_drewN _ _ _⟩ | exact ⟨rfl, _, Eq.trans (World.drewN_drewN _ _ _) (congrArg (World.drewN _) (Nat.add_assoc _ _ _))⟩)) | ((with_reducible refine gate_builtin (b := .append) (xs := #[.tmp 127, .tmp 129]) rfl ?_); at_builtin; refine Kd.R_append (Kd.int .i64) (w0 := w) w.heap.size rfl (.tmp 127) (.tmp 129) 24 2 (.int .i64 0) 8 rfl Try.underlying24 info2 rfl (by decide) (by omega) u15 x15_3 t275 [.int .i64 t275] (fun _ => True) (fun _ => False) rfl rfl ?aP (fun _ hk => hk.elim) ?aF ?aO ?aB ?aS ?aL ?_; (case aP => exact rfl); (case aB => exact (by repeat (first | (with_reducible first | exact HB.out | apply below_alloc | apply pw_below_drewN | apply below_drew1 | refine below_set ?_ GE259.out) | exact HB.out))); (case aF => exact (fun _ _ => trivial)); (case aO => exact (rT_ HO_15)); (case aS => exact (below_size (by repeat (first | (with_reducible first | exact HB.out | apply below_alloc | apply pw_below_drewN | apply below_drew1 | refine below_set ?_ GE259.out) | exact HB.out)))); (case aL => have := LMc41.out; omega); intro v277 w43 ho hb hg hat; rw [← Ny276.out] at ho; replace BK259 := Aside0.mk (blk_grown (g := gb259) (o := .cells #[.int .i64 (l1.length : Int)] 3 (0, 0)) (bT_ BK259) hg (Kd.R_ne HO_15.out BK259.out (by decide))); replace HB := Aside0.mk (hb); have HO278 := Aside0.mk (ho); clear HO_15; clear ho hb hg hat)))
              go_roundg k3
              case measure => have := HJ4.out; have := HK2.out; have := HK3.out; omega
              case rel => exact ⟨(t275), (0), (y276), (wrap64 (x93_3 + 1)), (by first | rfl | (simp; done) | (simp [*]; done)), (by first | rfl | (simp; done) | (simp [*]; done)), (by first | rfl | (simp; done) | (simp [*]; done)), H', ⟨by have := HJ4.out; have := HK2.out; have := HK3.out; omega⟩, ⟨by (with_reducible repeat (first | apply Kd.R_alloc | apply Kd.R_drewN | apply Kd.R_drew)); exact HO278.out⟩, ⟨by exact bT_ BK259⟩, ⟨by repeat (first | (with_reducible first | exact HB.out | apply below_alloc | apply pw_below_drewN | apply below_drew1 | refine below_set ?_ GE259.out) | exact HB.out)⟩⟩
             ·rw [if_neg c41] at H
              exact absurd H (by simp)
            ·rw [if_neg c40] at H
             have c40b0 : decide (x13_3 < t275) = false := decide_eq_false c40
             clear c40; have HC44 := Aside0.mk H; clear H
             have p274 : 0 ≤ (x93_3 : Int) := of_decide_eq_true (by first | (with_reducible assumption) | assumption)
             have q274 : x93_3 < (l0.length : Int) := of_decide_eq_true (by first | (with_reducible assumption) | assumption)
             obtain ⟨ad274, e274, hx274_0⟩ := Kd.at_int HR0.out x93_3 p274 q274
             cases e274
             replace hx274_0 := (HB.out.cell (World.block_lt_of_cell? w _ hx274_0)).trans hx274_0
             replace p274 := eq_true p274; replace q274 := eq_true q274
             have hcz45_0 : wr.cell? ⟨gb259, 0, none⟩ = some (.int .i64 (l1.length : Int)) := (blk_cell BK259.out 0).trans rfl
             have hfz45_0 := blk_frozen BK259.out 0
             go_upto_region 20 with (first | (go_at_call 41; (with_reducible refine (impl_Levels_1.calls k3 _ _ l1 (rd l0 x93_3) (l1.length : Int) t275 _ gb259 ((blk_cell (bT_ BK259) 0).trans rfl) ?side1 ?side2 A39.out).mono ?_); (case side1 => exact cB_ HR1 HB); (case side2 => exact HC1.out); rintro e w' ⟨rfl, ⟨nd, rfl⟩⟩; (try first | exact ⟨rfl, _, World.drewN_drewN _ _ _⟩ | exact ⟨rfl, _, Eq.trans (World.drewN_drewN _ _ _) (congrArg (World.drewN _) (Nat.add_assoc _ _ _))⟩)))
             repeat (go_quiet (first | (go_at_call 41; (with_reducible refine (impl_Levels_1.calls k3 _ _ l1 (rd l0 x93_3) (l1.length : Int) t275 _ gb259 ((blk_cell (bT_ BK259) 0).trans rfl) ?side1 ?side2 A39.out).mono ?_); (case side1 => exact cB_ HR1 HB); (case side2 => exact HC1.out); rintro e w' ⟨rfl, ⟨nd, rfl⟩⟩; (try first | exact ⟨rfl, _, World.drewN_drewN _ _ _⟩ | exact ⟨rfl, _, Eq.trans (World.drewN_drewN _ _ _) (congrArg (World.drewN _) (Nat.add_assoc _ _ _))⟩))); go_upto_region 20 with (first | (go_at_call 41; (with_reducible refine (impl_Levels_1.calls k3 _ _ l1 (rd l0 x93_3) (l1.length : Int) t275 _ gb259 ((blk_cell (bT_ BK259) 0).trans rfl) ?side1 ?side2 A39.out).mono ?_); (case side1 => exact cB_ HR1 HB); (case side2 => exact HC1.out); rintro e w' ⟨rfl, ⟨nd, rfl⟩⟩; (try first | exact ⟨rfl, _, World.drewN_drewN _ _ _⟩ | exact ⟨rfl, _, Eq.trans (World.drewN_drewN _ _ _) (congrArg (World.drewN _) (Nat.add_assoc _ _ _))⟩))))
             (try simp only [Act.put, List.setIfInBounds_toArray, List.set_cons_zero, List.set_cons_succ])
             go_cut [106] (fun v106 wc => ∃ (kq : Nat) (x106_43 : Bool), v106 = .bool x106_43 ∧ Aside0 (impl_Levels.j3 kq l1 l2 a3 x13_3 x14_3 x15_3 (rd l0 x93_3) l0 (l0.length : Int) x93_3 x106_43 (l1.length : Int) = some (r1, r2)) ∧ Aside0 (kq ≤ k3) ∧ Aside0 (Kd.R (Kd.int .i64) 2 wc w.heap.size (fun _ => True) u15 x15_3) ∧ Aside0 (wc.heap[gb259]? = some (.cells #[.int .i64 (l1.length : Int)] 3 (0, 0))) ∧ Aside0 (Below w.heap.size w wc))
             case first =>
              have H := HC44.out; clear HC44
              by_cases c46 : x13_3 > 0
              ·rw [if_pos c46] at H
               have c46b0 : decide (0 < x13_3) = true := decide_eq_true c46
               clear c46
               (first | rw [c46b0] | (simp only [i64_w, i32_w]; rw [c46b0]) | skip)
               obtain ⟨ji47, hji47⟩ : ∃ j_ : Int, (wrap64 (x13_3 - 1)) = j_ := ⟨_, rfl⟩
               replace H : (if 0 ≤ (ji47) then (if (ji47) < (l2.length : Int) then (impl_Levels.j3 k3 l1 l2 a3 x13_3 x14_3 x15_3 (rd l0 x93_3) l0 (l0.length : Int) x93_3 (decide ((rd l0 x93_3) < (rd l2 (ji47)))) (l1.length : Int)) else (none)) else (none)) = some (r1, r2) := by first | (rw [hji47] at H; exact H) | (simp only [hji47] at H ⊢; exact H)
               have hji47w : (IntKind.i64.wrap (x13_3 - 1)) = ji47 := (i64_w _).trans hji47
               by_cases c48 : 0 ≤ (ji47)
               ·rw [if_pos c48] at H
                have c48b0 : decide (0 ≤ (ji47)) = true := decide_eq_true c48
                clear c48
                by_cases c49 : (ji47) < (l2.length : Int)
                ·rw [if_pos c49] at H
                 have c49b0 : decide ((ji47) < (l2.length : Int)) = true := decide_eq_true c49
                 clear c49; have H' := Aside0.mk H; clear H
                 have p279 : 0 ≤ ((ji47) : Int) := of_decide_eq_true (by first | (with_reducible assumption) | assumption)
                 have q279 : (ji47) < (l2.length : Int) := of_decide_eq_true (by first | (with_reducible assumption) | assumption)
                 obtain ⟨ad279, e279, hx279_0⟩ := Kd.at_int HR2.out (ji47) p279 q279
                 cases e279
                 replace hx279_0 := (HB.out.cell (World.block_lt_of_cell? w _ hx279_0)).trans hx279_0
                 replace p279 := eq_true p279; replace q279 := eq_true q279
                 go_wp2
                 repeat (go_quiet (fail); try go_wp2)
                 go_meet
                 case rel => exact ⟨_, (decide ((rd l0 x93_3) < (rd l2 (ji47)))), (by first | rfl | (simp; done) | (simp only [← hji47] <;> (first | rfl | simp)) | (simp [*]; done)), H', ⟨by have := HJ4.out; have := HK2.out; have := HK3.out; first | omega | exact Nat.le_refl _⟩, ⟨by (with_reducible repeat (first | apply Kd.R_alloc | apply Kd.R_drewN | apply Kd.R_drew)); exact HO_15.out⟩, ⟨by exact bT_ BK259⟩, ⟨by repeat (first | (with_reducible first | exact HB.out | apply below_alloc | apply pw_below_drewN | apply below_drew1 | refine below_set ?_ GE259.out) | exact HB.out)⟩⟩
                ·rw [if_neg c49] at H
                 exact absurd H (by simp)
               ·rw [if_neg c48] at H
                exact absurd H (by simp)
              ·rw [if_neg c46] at H
               have c46b0 : decide (0 < x13_3) = false := decide_eq_false c46
               clear c46
               (first | rw [c46b0] | (simp only [i64_w, i32_w]; rw [c46b0]) | skip)
               have H' := Aside0.mk H; clear H
               go_wp2
               repeat (go_quiet (fail); try go_wp2)
               go_meet
               case rel => exact ⟨_, (false), (by first | rfl | (simp; done) | (simp [*]; done)), H', ⟨by have := HJ4.out; have := HK2.out; have := HK3.out; first | omega | exact Nat.le_refl _⟩, ⟨by (with_reducible repeat (first | apply Kd.R_alloc | apply Kd.R_drewN | apply Kd.R_drew)); exact HO_15.out⟩, ⟨by exact bT_ BK259⟩, ⟨by repeat (first | (with_reducible first | exact HB.out | apply below_alloc | apply pw_below_drewN | apply below_drew1 | refine below_set ?_ GE259.out) | exact HB.out)⟩⟩
             case rest =>
              clear HC44; (try clear c1); (try clear c2); (try clear p2); (try clear q2); (try clear hx2); (try clear c3); (try clear c4); (try clear p6); (try clear c9); (try clear c11); (try clear c13); (try clear c15); (try clear c18); (try clear c21); (try clear c22); (try clear c22b0); (try clear c23); (try clear c23b0); (try clear c24); (try clear c24b0); (try clear c25); (try clear c25b0); (try clear c26); (try clear c26b0); (try clear p26); (try clear q26); (try clear hx26); (try clear c27); (try clear c27b0); (try clear p27); (try clear q27); (try clear hx27); (try clear c29); (try clear c29b0); (try clear c30); (try clear c30b0); (try clear c31); (try clear c31b0); (try clear c32); (try clear c32b0); (try clear c33); (try clear c33b0); (try clear c36); (try clear c36b0); (try clear c37); (try clear c37b0); (try clear c38); (try clear c38b0); (try clear c40); (try clear c40b0); (try clear c41); (try clear c46); (try clear c46b0); (try clear c48); (try clear c48b0); (try clear c49); (try clear c49b0); (try clear hcz17_0); (try clear hcz18_0); (try clear hcz19_0); (try clear hcz20_0); (try clear hcz42_0); (try clear hcz45_0); (try clear hcz7_0); (try clear hfz17_0); (try clear hfz18_0); (try clear hfz19_0); (try clear hfz20_0); (try clear hfz42_0); (try clear hfz45_0); (try clear hfz7_0); (try clear hx265_0); (try clear hx266_0); (try clear hx267_0); (try clear hx268_0); (try clear hx269_0); (try clear hx270_0); (try clear hx274_0); (try clear hx279_0); (try clear p2); (try clear p26); (try clear p265); (try clear p266); (try clear p267); (try clear p268); (try clear p269); (try clear p27); (try clear p270); (try clear p274); (try clear p279); (try clear p6); (try clear q2); (try clear q26); (try clear q265); (try clear q266); (try clear q267); (try clear q268); (try clear q269); (try clear q27); (try clear q270); (try clear q274); (try clear q279)
              obtain ⟨kq, x106_43, rfl, HA, HJ43, HO_15, BK259, HB⟩ := hcut
              cases kq with
              | zero => exact absurd HA.out (by simp [impl_Levels.j3])
              | succ kj43 =>
               have H := HA.out; clear HA
               simp only [impl_Levels.j3] at H
               by_cases c50 : x106_43 = true
               ·subst c50
                have H1 : (if (wrap64 (x14_3 + 1)) = a3 then ((impl_Levels_1.f kj43 l2 (rd l0 x93_3) (l1.length : Int)).bind fun t280 => (if x15_3.length < 17592186044416 then (impl_Levels.l1 kj43 l1 l2 a3 t280 0 (x15_3 ++ [t280]) l0 (l0.length : Int) (wrap64 (x93_3 + 1)) (l1.length : Int)) else (none))) else (if x15_3.length < 17592186044416 then (impl_Levels.l1 kj43 l1 l2 a3 x13_3 (wrap64 (x14_3 + 1)) (x15_3 ++ [x13_3]) l0 (l0.length : Int) (wrap64 (x93_3 + 1)) (l1.length : Int)) else (none))) = some (r1, r2) := by rw [if_pos rfl] at H; exact H
                clear H; have H := H1; clear H1
                by_cases c51 : (wrap64 (x14_3 + 1)) = a3
                ·rw [if_pos c51] at H
                 have c51b0 : ((wrap64 (x14_3 + 1)) == a3) = true := beq_iff_eq.mpr c51
                 have c51b1 : ((wrap64 (x14_3 + 1)) != a3) = false := bne_eq_false_iff_eq.mpr c51
                 clear c51; replace H := Option.bind_eq_some_iff.mp H
                 obtain ⟨t280, A520, H⟩ := H
                 replace H : (if x15_3.length < 17592186044416 then (impl_Levels.l1 kj43 l1 l2 a3 t280 0 (x15_3 ++ [t280]) l0 (l0.length : Int) (wrap64 (x93_3 + 1)) (l1.length : Int)) else (none)) = some (r1, r2) := H
                 have A52 := Aside0.mk A520; clear A520
                 by_cases c53 : x15_3.length < 17592186044416
                 ·rw [if_pos c53] at H
                  have LMc53 := Aside0.mk c53; clear c53
                  obtain ⟨y281, hy281⟩ : ∃ y_ : List Int, y_ = (x15_3 ++ [t280]) := ⟨_, rfl⟩
                  replace H : (impl_Levels.l1 kj43 l1 l2 a3 t280 0 y281 l0 (l0.length : Int) (wrap64 (x93_3 + 1)) (l1.length : Int)) = some (r1, r2) := by first | (rw [hy281]; with_reducible exact H) | (have H2_ := (Option.bind_some _ _).symm.trans H; rw [hy281]; with_reducible exact H2_) | (have H2_ := (Option.bind_some _ _).symm.trans H; with_reducible exact H2_) | with_reducible exact H | (rw [hy281]; exact H) | exact H
                  have Ny281 := Aside0.mk hy281; clear hy281; have H' := Aside0.mk H; clear H
                  have hcz54_0 : wc.cell? ⟨gb259, 0, none⟩ = some (.int .i64 (l1.length : Int)) := (blk_cell BK259.out 0).trans rfl
                  have hfz54_0 := blk_frozen BK259.out 0
                  go_wp2_with (first | (go_at_call 41; (with_reducible refine (impl_Levels_1.calls kj43 _ _ l2 (rd l0 x93_3) (l1.length : Int) t280 _ gb259 ((blk_cell (bT_ BK259) 0).trans rfl) ?side1 ?side2 A52.out).mono ?_); (case side1 => exact cB_ HR2 HB); (case side2 => exact HC2.out); rintro e w' ⟨rfl, ⟨nd, rfl⟩⟩; (try first | exact ⟨rfl, _, World.drewN_drewN _ _ _⟩ | exact ⟨rfl, _, Eq.trans (World.drewN_drewN _ _ _) (congrArg (World.drewN _) (Nat.add_assoc _ _ _))⟩)) | ((with_reducible refine gate_builtin (b := .append) (xs := #[.tmp 127, .tmp 129]) rfl ?_); at_builtin; refine Kd.R_append (Kd.int .i64) (w0 := w) w.heap.size rfl (.tmp 127) (.tmp 129) 24 2 (.int .i64 0) 8 rfl Try.underlying24 info2 rfl (by decide) (by omega) u15 x15_3 t280 [.int .i64 t280] (fun _ => True) (fun _ => False) rfl rfl ?aP (fun _ hk => hk.elim) ?aF ?aO ?aB ?aS ?aL ?_; (case aP => exact rfl); (case aB => exact (by repeat (first | (with_reducible first | exact HB.out | apply below_alloc | apply pw_below_drewN | apply below_drew1 | refine below_set ?_ GE259.out) | exact HB.out))); (case aF => exact (fun _ _ => trivial)); (case aO => exact (rT_ HO_15)); (case aS => exact (below_size (by repeat (first | (with_reducible first | exact HB.out | apply below_alloc | apply pw_below_drewN | apply below_drew1 | refine below_set ?_ GE259.out) | exact HB.out)))); (case aL => have := LMc53.out; omega); intro v282 w55 ho hb hg hat; rw [← Ny281.out] at ho; replace BK259 := Aside0.mk (blk_grown (g := gb259) (o := .cells #[.int .i64 (l1.length : Int)] 3 (0, 0)) (bT_ BK259) hg (Kd.R_ne HO_15.out BK259.out (by decide))); replace HB := Aside0.mk (hb); have HO283 := Aside0.mk (ho); clear HO_15; clear ho hb hg hat))
                  repeat (go_quiet (first | (go_at_call 41; (with_reducible refine (impl_Levels_1.calls kj43 _ _ l2 (rd l0 x93_3) (l1.length : Int) t280 _ gb259 ((blk_cell (bT_ BK259) 0).trans rfl) ?side1 ?side2 A52.out).mono ?_); (case side1 => exact cB_ HR2 HB); (case side2 => exact HC2.out); rintro e w' ⟨rfl, ⟨nd, rfl⟩⟩; (try first | exact ⟨rfl, _, World.drewN_drewN _ _ _⟩ | exact ⟨rfl, _, Eq.trans (World.drewN_drewN _ _ _) (congrArg (World.drewN _) (Nat.add_assoc _ _ _))⟩)) ); try go_wp2_with (first | (go_at_call 41; (with_reducible refine (impl_Levels_1.calls kj43 _ _ l2 (rd l0 x93_3) (l1.length : Int) t280 _ gb259 ((blk_cell (bT_ BK259) 0).trans rfl) ?side1 ?side2 A52.out).mono ?_); (case side1 => exact cB_ HR2 HB); (case side2 => exact HC2.out); rintro e w' ⟨rfl, ⟨nd, rfl⟩⟩; (try first | exact ⟨rfl, _, World.drewN_drewN _ _ _⟩ | exact ⟨rfl, _, Eq.trans (World.drewN_drewN _ _ _) (congrArg (World.drewN _) (Nat.add_assoc _ _ _))⟩)) | ((with_reducible refine gate_builtin (b := .append) (xs := #[.tmp 127, .tmp 129]) rfl ?_); at_builtin; refine Kd.R_append (Kd.int .i64) (w0 := w) w.heap.size rfl (.tmp 127) (.tmp 129) 24 2 (.int .i64 0) 8 rfl Try.underlying24 info2 rfl (by decide) (by omega) u15 x15_3 t280 [.int .i64 t280] (fun _ => True) (fun _ => False) rfl rfl ?aP (fun _ hk => hk.elim) ?aF ?aO ?aB ?aS ?aL ?_; (case aP => exact rfl); (case aB => exact (by repeat (first | (with_reducible first | exact HB.out | apply below_alloc | apply pw_below_drewN | apply below_drew1 | refine below_set ?_ GE259.out) | exact HB.out))); (case aF => exact (fun _ _ => trivial)); (case aO => exact (rT_ HO_15)); (case aS => exact (below_size (by repeat (first | (with_reducible first | exact HB.out | apply below_alloc | apply pw_below_drewN | apply below_drew1 | refine below_set ?_ GE259.out) | exact HB.out)))); (case aL => have := LMc53.out; omega); intro v282 w55 ho hb hg hat; rw [← Ny281.out] at ho; replace BK259 := Aside0.mk (blk_grown (g := gb259) (o := .cells #[.int .i64 (l1.length : Int)] 3 (0, 0)) (bT_ BK259) hg (Kd.R_ne HO_15.out BK259.out (by decide))); replace HB := Aside0.mk (hb); have HO283 := Aside0.mk (ho); clear HO_15; clear ho hb hg hat)))
                  go_roundg kj43
                  case measure => have := HJ4.out; have := HK2.out; have := HK3.out; have := HJ43.out; omega
                  case rel => exact ⟨(t280), (0), (y281), (wrap64 (x93_3 + 1)), (by first | rfl | (simp; done) | (simp [*]; done)), (by first | rfl | (simp; done) | (simp [*]; done)), (by first | rfl | (simp; done) | (simp [*]; done)), H', ⟨by have := HJ4.out; have := HK2.out; have := HK3.out; have := HJ43.out; omega⟩, ⟨by (with_reducible repeat (first | apply Kd.R_alloc | apply Kd.R_drewN | apply Kd.R_drew)); exact HO283.out⟩, ⟨by exact bT_ BK259⟩, ⟨by repeat (first | (with_reducible first | exact HB.out | apply below_alloc | apply pw_below_drewN | apply below_drew1 | refine below_set ?_ GE259.out) | exact HB.out)⟩⟩
                 ·rw [if_neg c53] at H
                  exact absurd H (by simp)
                ·rw [if_neg c51] at H
                 have c51b0 : ((wrap64 (x14_3 + 1)) == a3) = false := beq_eq_false_iff_ne.mpr c51
                 have c51b1 : ((wrap64 (x14_3 + 1)) != a3) = true := bne_iff_ne.mpr c51
                 by_cases c56 : x15_3.length < 17592186044416
                 ·rw [if_pos c56] at H
                  have LMc56 := Aside0.mk c56; clear c56
                  obtain ⟨y284, hy284⟩ : ∃ y_ : List Int, y_ = (x15_3 ++ [x13_3]) := ⟨_, rfl⟩
                  replace H : (impl_Levels.l1 kj43 l1 l2 a3 x13_3 (wrap64 (x14_3 + 1)) y284 l0 (l0.length : Int) (wrap64 (x93_3 + 1)) (l1.length : Int)) = some (r1, r2) := by first | (rw [hy284]; with_reducible exact H) | (have H2_ := (Option.bind_some _ _).symm.trans H; rw [hy284]; with_reducible exact H2_) | (have H2_ := (Option.bind_some _ _).symm.trans H; with_reducible exact H2_) | with_reducible exact H | (rw [hy284]; exact H) | exact H
                  have Ny284 := Aside0.mk hy284; clear hy284; have H' := Aside0.mk H; clear H
                  go_wp2_with (first | ((with_reducible refine gate_builtin (b := .append) (xs := #[.tmp 127, .tmp 129]) rfl ?_); at_builtin; refine Kd.R_append (Kd.int .i64) (w0 := w) w.heap.size rfl (.tmp 127) (.tmp 129) 24 2 (.int .i64 0) 8 rfl Try.underlying24 info2 rfl (by decide) (by omega) u15 x15_3 x13_3 [.int .i64 x13_3] (fun _ => True) (fun _ => False) rfl rfl ?aP (fun _ hk => hk.elim) ?aF ?aO ?aB ?aS ?aL ?_; (case aP => exact rfl); (case aB => exact (by repeat (first | (with_reducible first | exact HB.out | apply below_alloc | apply pw_below_drewN | apply below_drew1 | refine below_set ?_ GE259.out) | exact HB.out))); (case aF => exact (fun _ _ => trivial)); (case aO => exact (rT_ HO_15)); (case aS => exact (below_size (by repeat (first | (with_reducible first | exact HB.out | apply below_alloc | apply pw_below_drewN | apply below_drew1 | refine below_set ?_ GE259.out) | exact HB.out)))); (case aL => have := LMc56.out; omega); intro v285 w57 ho hb hg hat; rw [← Ny284.out] at ho; replace BK259 := Aside0.mk (blk_grown (g := gb259) (o := .cells #[.int .i64 (l1.length : Int)] 3 (0, 0)) (bT_ BK259) hg (Kd.R_ne HO_15.out BK259.out (by decide))); replace HB := Aside0.mk (hb); have HO286 := Aside0.mk (ho); clear HO_15; clear ho hb hg hat))
                  repeat (go_quiet (fail); try go_wp2_with (first | ((with_reducible refine gate_builtin (b := .append) (xs := #[.tmp 127, .tmp 129]) rfl ?_); at_builtin; refine Kd.R_append (Kd.int .i64) (w0 := w) w.heap.size rfl (.tmp 127) (.tmp 129) 24 2 (.int .i64 0) 8 rfl Try.underlying24 info2 rfl (by decide) (by omega) u15 x15_3 x13_3 [.int .i64 x13_3] (fun _ => True) (fun _ => False) rfl rfl ?aP (fun _ hk => hk.elim) ?aF ?aO ?aB ?aS ?aL ?_; (case aP => exact rfl); (case aB => exact (by repeat (first | (with_reducible first | exact HB.out | apply below_alloc | apply pw_below_drewN | apply below_drew1 | refine below_set ?_ GE259.out) | exact HB.out))); (case aF => exact (fun _ _ => trivial)); (case aO => exact (rT_ HO_15)); (case aS => exact (below_size (by repeat (first | (with_reducible first | exact HB.out | apply below_alloc | apply pw_below_drewN | apply below_drew1 | refine below_set ?_ GE259.out) | exact HB.out)))); (case aL => have := LMc56.out; omega); intro v285 w57 ho hb hg hat; rw [← Ny284.out] at ho; replace BK259 := Aside0.mk (blk_grown (g := gb259) (o := .cells #[.int .i64 (l1.length : Int)] 3 (0, 0)) (bT_ BK259) hg (Kd.R_ne HO_15.out BK259.out (by decide))); replace HB := Aside0.mk (hb); have HO286 := Aside0.mk (ho); clear HO_15; clear ho hb hg hat)))
                  go_roundg kj43
                  case measure => have := HJ4.out; have := HK2.out; have := HK3.out; have := HJ43.out; omega
                  case rel => exact ⟨(x13_3), (wrap64 (x14_3 + 1)), (y284), (wrap64 (x93_3 + 1)), (by first | rfl | (simp; done) | (simp [*]; done)), (by first | rfl | (simp; done) | (simp [*]; done)), (by first | rfl | (simp; done) | (simp [*]; done)), H', ⟨by have := HJ4.out; have := HK2.out; have := HK3.out; have := HJ43.out; omega⟩, ⟨by (with_reducible repeat (first | apply Kd.R_alloc | apply Kd.R_drewN | apply Kd.R_drew)); exact HO286.out⟩, ⟨by exact bT_ BK259⟩, ⟨by repeat (first | (with_reducible first | exact HB.out | apply below_alloc | apply pw_below_drewN | apply below_drew1 | refine below_set ?_ GE259.out) | exact HB.out)⟩⟩
                 ·rw [if_neg c56] at H
                  exact absurd H (by simp)
               ·replace c50 := Bool.eq_false_iff.mpr c50
                subst c50
                have H1 : (if x15_3.length < 17592186044416 then (impl_Levels.l1 kj43 l1 l2 a3 x13_3 0 (x15_3 ++ [x13_3]) l0 (l0.length : Int) (wrap64 (x93_3 + 1)) (l1.length : Int)) else (none)) = some (r1, r2) := by rw [if_neg (show ¬ (false = true) by decide)] at H; exact H
                clear H; have H := H1; clear H1
                by_cases c58 : x15_3.length < 17592186044416
                ·rw [if_pos c58] at H
                 have LMc58 := Aside0.mk c58; clear c58
                 obtain ⟨y287, hy287⟩ : ∃ y_ : List Int, y_ = (x15_3 ++ [x13_3]) := ⟨_, rfl⟩
                 replace H : (impl_Levels.l1 kj43 l1 l2 a3 x13_3 0 y287 l0 (l0.length : Int) (wrap64 (x93_3 + 1)) (l1.length : Int)) = some (r1, r2) := by first | (rw [hy287]; with_reducible exact H) | (have H2_ := (Option.bind_some _ _).symm.trans H; rw [hy287]; with_reducible exact H2_) | (have H2_ := (Option.bind_some _ _).symm.trans H; with_reducible exact H2_) | with_reducible exact H | (rw [hy287]; exact H) | exact H
                 have Ny287 := Aside0.mk hy287; clear hy287; have H' := Aside0.mk H; clear H
                 go_wp2_with (first | ((with_reducible refine gate_builtin (b := .append) (xs := #[.tmp 127, .tmp 129]) rfl ?_); at_builtin; refine Kd.R_append (Kd.int .i64) (w0 := w) w.heap.size rfl (.tmp 127) (.tmp 129) 24 2 (.int .i64 0) 8 rfl Try.underlying24 info2 rfl (by decide) (by omega) u15 x15_3 x13_3 [.int .i64 x13_3] (fun _ => True) (fun _ => False) rfl rfl ?aP (fun _ hk => hk.elim) ?aF ?aO ?aB ?aS ?aL ?_; (case aP => exact rfl); (case aB => exact (by repeat (first | (with_reducible first | exact HB.out | apply below_alloc | apply pw_below_drewN | apply below_drew1 | refine below_set ?_ GE259.out) | exact HB.out))); (case aF => exact (fun _ _ => trivial)); (case aO => exact (rT_ HO_15)); (case aS => exact (below_size (by repeat (first | (with_reducible first | exact HB.out | apply below_alloc | apply pw_below_drewN | apply below_drew1 | refine below_set ?_ GE259.out) | exact HB.out)))); (case aL => have := LMc58.out; omega); intro v288 w59 ho hb hg hat; rw [← Ny287.out] at ho; replace BK259 := Aside0.mk (blk_grown (g := gb259) (o := .cells #[.int .i64 (l1.length : Int)] 3 (0, 0)) (bT_ BK259) hg (Kd.R_ne HO_15.out BK259.out (by decide))); replace HB := Aside0.mk (hb); have HO289 := Aside0.mk (ho); clear HO_15; clear ho hb hg hat))
                 repeat (go_quiet (fail); try go_wp2_with (first | ((with_reducible refine gate_builtin (b := .append) (xs := #[.tmp 127, .tmp 129]) rfl ?_); at_builtin; refine Kd.R_append (Kd.int .i64) (w0 := w) w.heap.size rfl (.tmp 127) (.tmp 129) 24 2 (.int .i64 0) 8 rfl Try.underlying24 info2 rfl (by decide) (by omega) u15 x15_3 x13_3 [.int .i64 x13_3] (fun _ => True) (fun _ => False) rfl rfl ?aP (fun _ hk => hk.elim) ?aF ?aO ?aB ?aS ?aL ?_; (case aP => exact rfl); (case aB => exact (by repeat (first | (with_reducible first | exact HB.out | apply below_alloc | apply pw_below_drewN | apply below_drew1 | refine below_set ?_ GE259.out) | exact HB.out))); (case aF => exact (fun _ _ => trivial)); (case aO => exact (rT_ HO_15)); (case aS => exact (below_size (by repeat (first | (with_reducible first | exact HB.out | apply below_alloc | apply pw_below_drewN | apply below_drew1 | refine below_set ?_ GE259.out) | exact HB.out)))); (case aL => have := LMc58.out; omega); intro v288 w59 ho hb hg hat; rw [← Ny287.out] at ho; replace BK259 := Aside0.mk (blk_grown (g := gb259) (o := .cells #[.int .i64 (l1.length : Int)] 3 (0, 0)) (bT_ BK259) hg (Kd.R_ne HO_15.out BK259.out (by decide))); replace HB := Aside0.mk (hb); have HO289 := Aside0.mk (ho); clear HO_15; clear ho hb hg hat)))
                 go_roundg kj43
                 case measure => have := HJ4.out; have := HK2.out; have := HK3.out; have := HJ43.out; omega
                 case rel => exact ⟨(x13_3), (0), (y287), (wrap64 (x93_3 + 1)), (by first | rfl | (simp; done) | (simp [*]; done)), (by first | rfl | (simp; done) | (simp [*]; done)), (by first | rfl | (simp; done) | (simp [*]; done)), H', ⟨by have := HJ4.out; have := HK2.out; have := HK3.out; have := HJ43.out; omega⟩, ⟨by (with_reducible repeat (first | apply Kd.R_alloc | apply Kd.R_drewN | apply Kd.R_drew)); exact HO289.out⟩, ⟨by exact bT_ BK259⟩, ⟨by repeat (first | (with_reducible first | exact HB.out | apply below_alloc | apply pw_below_drewN | apply below_drew1 | refine below_set ?_ GE259.out) | exact HB.out)⟩⟩
                ·rw [if_neg c58] at H
                 exact absurd H (by simp)
           ·rw [if_neg c38] at H
            exact absurd H (by simp)
          ·rw [if_neg c37] at H
           exact absurd H (by simp)
         ·rw [if_neg c36] at H
          have c36b0 : decide (x93_3 < (l0.length : Int)) = false := decide_eq_false c36
          clear c36
          simp only [Option.some.injEq, Prod.mk.injEq] at H
          obtain ⟨rfl, rfl⟩ := H
          go_wp2
          repeat (go_quiet (fail); try go_wp2)
          go_ret2
          exact ⟨_, by first | rfl | (simp [errW_none, errW_some] <;> rfl) | (simp [*, errW_none, errW_some] <;> rfl), by (with_reducible repeat (first | apply Kd.R_alloc | apply Kd.R_drewN | apply Kd.R_drew)); exact HO_15.out, by repeat (first | (with_reducible first | exact HB.out | apply below_alloc | apply pw_below_drewN | apply below_drew1 | refine below_set ?_ GE259.out) | exact HB.out)⟩

end Go.Proofs.Ytmjfmhbklifafaa.QFnSteady
