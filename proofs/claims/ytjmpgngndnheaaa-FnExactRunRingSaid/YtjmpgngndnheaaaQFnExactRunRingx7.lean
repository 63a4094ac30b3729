-- Written by a program of this session out of the printer's texts and contracts of its own.
import Derived.Test.YtjmpgngndnheaaaSq
import Derived.Test.YtjmpgngndnheaaaQFnExactRunRingx0
import Derived.Test.YtjmpgngndnheaaaQFnExactRunRingx5
import Derived.Test.YtjmpgngndnheaaaQFnExactRunRingx6
namespace Go.Proofs.Ytjmpgngndnheaaa.QFnExactRunRing
open Go.RowKit Go.Proofs.YtjmpgngndnheaaaW.PrintWords Go.Proofs.YtjmpgngndnheaaaW.PrintLast Go.Proofs.YtjmpgngndnheaaaW.PrintMore Go.Proofs.Ytjmpgngndnheaaa.Sq
attribute [local go_sem] max2_int min2_int max_two min_two max_three min_three max_four min_four   -- for this text's walks alone
set_option linter.unusedVariables false
set_option linter.unusedSimpArgs false

/-! ### impl_RunRing: function 17 -/
mutual
def impl_RunRing.j0 : Nat → List Int → Int → Bool → List Int → List Int → Option (List Int × List Int × Bool)
 | 0, _, _, _, _, _ => none
 | k + 1, x1, x2, x17, x274000, x274001 => if x17 = true then (some (([] : List Int), ([] : List Int), false)) else ((slices_Clone_int64_int64.f x274000).bind fun t277 => ((slices_Clone_int64_int64.f x274001).bind fun t280 => (impl_RunRing.l0 k x1 x2 t277 t280)))
def impl_RunRing.l0 : Nat → List Int → Int → List Int → List Int → Option (List Int × List Int × Bool)
 | 0, _, _, _, _ => none
 | k + 1, x1, x2, x284000, x284001 => if x2 > 0 then ((impl_advect.f k x284000 x284001 x1).bind fun bt284 => (impl_RunRing.l0 k x1 (wrap64 (x2 - 1)) bt284.1 bt284.2)) else (some (x284000, x284001, true))
end
def impl_RunRing.f (k : Nat) (l0_0 : List Int) (l0_1 : List Int) (l1 : List Int) (a2 : Int) : Option (List Int × List Int × Bool) := (impl_windsOk.f k l0_0 l0_1 l1).bind fun t275 => (if t275 = true then ((impl_in.f a2 0 200).bind fun t276 => (impl_RunRing.j0 k l1 a2 (!t276) l0_0 l0_1)) else (impl_RunRing.j0 k l1 a2 true l0_0 l0_1))
theorem impl_RunRing.mono_l : ∀ k, (∀ y0 y1 y2 y3 y4, LeO (impl_RunRing.j0 k y0 y1 y2 y3 y4) (impl_RunRing.j0 (k + 1) y0 y1 y2 y3 y4)) ∧ (∀ y0 y1 y2 y3, LeO (impl_RunRing.l0 k y0 y1 y2 y3) (impl_RunRing.l0 (k + 1) y0 y1 y2 y3))
 | 0 => ⟨fun _ _ _ _ _ r h => by simp [impl_RunRing.j0] at h, fun _ _ _ _ r h => by simp [impl_RunRing.l0] at h⟩
 | k + 1 => by
  obtain ⟨ih0, ih1⟩ := impl_RunRing.mono_l k
  refine ⟨?_, ?_⟩
  intro y0 y1 y2 y3 y4; unfold impl_RunRing.j0; rotate_left
  intro y0 y1 y2 y3; unfold impl_RunRing.l0; rotate_left
  all_goals repeat' first
  | (with_reducible exact ih0 _ _ _ _ _)
  | (with_reducible exact ih1 _ _ _ _)
  | (with_reducible exact impl_advect.mono _ _ _ _)
  | (with_reducible exact impl_windsOk.mono _ _ _ _)
  | (with_reducible exact LeO.refl _)
  | (with_reducible exact LeO.none _)
  | (with_reducible refine LeO.ite ?_ ?_)
  | (with_reducible refine LeO.bind ?_ (fun _ => ?_))
  | exact ih0 _ _ _ _ _
  | exact ih1 _ _ _ _
  | exact impl_advect.mono _ _ _ _
  | exact impl_windsOk.mono _ _ _ _
  | exact LeO.none _
  | refine LeO.ite ?_ ?_
  | refine LeO.bind ?_ (fun _ => ?_)
theorem impl_RunRing.mono : ∀ a0 a1 a2 a3 k, LeO (impl_RunRing.f k a0 a1 a2 a3) (impl_RunRing.f (k + 1) a0 a1 a2 a3) := by
 intro a0 a1 a2 a3 k
 obtain ⟨ih0, ih1⟩ := impl_RunRing.mono_l k
 unfold impl_RunRing.f
 repeat' first
   | (with_reducible exact ih0 _ _ _ _ _)
   | (with_reducible exact ih1 _ _ _ _)
   | (with_reducible exact impl_advect.mono _ _ _ _)
   | (with_reducible exact impl_windsOk.mono _ _ _ _)
   | (with_reducible exact LeO.refl _)
   | (with_reducible exact LeO.none _)
   | (with_reducible refine LeO.ite ?_ ?_)
   | (with_reducible refine LeO.bind ?_ (fun _ => ?_))
   | exact ih0 _ _ _ _ _
   | exact ih1 _ _ _ _
   | exact impl_advect.mono _ _ _ _
   | exact impl_windsOk.mono _ _ _ _
   | exact LeO.none _
   | refine LeO.ite ?_ ?_
   | refine LeO.bind ?_ (fun _ => ?_)
def impl_RunRing.T3 : Bool × List (List Nat × List Nat) := (true, [([], []), ([0], [0]), ([1], [1]), ([], []), ([3], [3]), ([4, 2], [4]), ([2, 5], [2, 5]), ([], []), ([7, 6, 5, 0, 1, 2, 3, 4, 5, 6, 7], [6, 7])])
def impl_RunRing.B3 : List Nat := [0, 1, 3, 0, 8, 31, 63, 0, 255]
theorem impl_RunRing.tab3 : rtab .any (opsOf Try.f17 3) = impl_RunRing.T3 := by kernel_rfl
theorem impl_RunRing.bits3 : waitsOk impl_RunRing.T3.2 impl_RunRing.B3 = true := by kernel_rfl
set_option maxHeartbeats 8000000 in
set_option maxRecDepth 100000 in
theorem impl_RunRing.calls (k : Nat) (A0_0 : Option Addr) (c0_0 : Nat) (l0_0 : List Int) (A0_1 : Option Addr) (c0_1 : Nat) (l0_1 : List Int) (A1 : Option Addr) (c1 : Nat) (l1 : List Int) (a2 : Int) (r1 : List Int) (r2 : List Int) (r3 : Bool) (w : World) (hr0_0 : Kd.C (Kd.int .i64) w A0_0 l0_0.length l0_0) (hc0_0 : l0_0.length ≤ c0_0) (hr0_1 : Kd.C (Kd.int .i64) w A0_1 l0_1.length l0_1) (hc0_1 : l0_1.length ≤ c0_1) (hr1 : Kd.C (Kd.int .i64) w A1 l1.length l1) (hc1 : l1.length ≤ c1) (h : impl_RunRing.f k l0_0 l0_1 l1 a2 = some (r1, r2, r3)) :
  Calls Try.prog 17 #[.agg #[.slice A0_0 l0_0.length c0_0, .slice A0_1 l0_1.length c0_1], .slice A1 l1.length c1, .int .i64 a2] w fun e w' => ∃ v0_ v1_ : Value, e = .returned (.tuple #[.agg #[v0_, v1_], .bool r3]) ∧ Kd.R (Kd.int .i64) 2 w' w.heap.size (fun k_ => some k_ ≠ (v1_ : Value).ownBlock) v0_ r1 ∧ Kd.R (Kd.int .i64) 2 w' w.heap.size (fun k_ => some k_ ≠ (v0_ : Value).ownBlock) v1_ r2 ∧ Below w.heap.size w w' := by
 have hu26 := Try.underlying26; have HR0_0 := Aside0.mk hr0_0; have HC0_0 := Aside0.mk hc0_0; clear hr0_0 hc0_0; have HR0_1 := Aside0.mk hr0_1; have HC0_1 := Aside0.mk hc0_1; clear hr0_1 hc0_1; have HR1 := Aside0.mk hr1; have HC1 := Aside0.mk hc1; clear hr1 hc1
 have HB := Aside0.mk (Below.refl w.heap.size w)
 have H : ((impl_windsOk.f k l0_0 l0_1 l1).bind fun t275 => (if t275 = true then ((impl_in.f a2 0 200).bind fun t276 => (impl_RunRing.j0 k l1 a2 (!t276) l0_0 l0_1)) else (impl_RunRing.j0 k l1 a2 true l0_0 l0_1))) = some (r1, r2, r3) := h
 clear h; have HC4 := Aside0.mk H; clear H
 go_enter Try.func17, Try.ntmps17
 go_upto_region 1 with (first | ((with_reducible refine gate_dst (N := 3) rfl ?_); refine box_event ?hg (N := 3) ?hd (cs := #[.slice A0_0 l0_0.length c0_0, .slice A0_1 l0_1.length c0_1]) (t := 26) ?hr ?_; (case hd => rfl); (case hg => rfl); (case hr => first | (go_simp; done) | (go_simp; rfl)); intro gb273 hg w5 hbox hb; have BK273 := Aside0.mk (hbox); have GW273 := gE_ HB hg; have GE273 := gE_ HB hg; replace HB := bS_ HB hb; clear hb hbox hg) | ((with_reducible refine gate_dst (N := 6) rfl ?_); refine box_event ?hg (N := 6) ?hd (cs := #[.slice none 0 0, .slice none 0 0]) (t := 26) ?hr ?_; (case hd => rfl); (case hg => rfl); (case hr => first | (go_simp; done) | (go_simp; rfl)); intro gb274 hg w6 hbox hb; have BK274 := Aside0.mk (hbox); have GW274 := gE_ HB hg; have GE274 := gE_ HB hg; replace HB := bS_ HB hb; have NB273_274 := nL_ BK273 hg; have NB274_273 := nG_ BK273 hg; replace BK273 := bB_ BK273 hb; clear hb hbox hg))
 (try simp only [Act.put, List.setIfInBounds_toArray, List.set_cons_zero, List.set_cons_succ])
 go_cut [17] (fun v17 wc => ∃ (kq : Nat) (x17_3 : Bool), v17 = .bool x17_3 ∧ Aside0 (impl_RunRing.j0 kq l1 a2 x17_3 l0_0 l0_1 = some (r1, r2, r3)) ∧ Aside0 (kq ≤ k) ∧ Aside0 (wc.heap[gb273]? = some (.cells #[(.slice A0_0 l0_0.length c0_0), (.slice A0_1 l0_1.length c0_1)] 26 (0, 0))) ∧ Aside0 (wc.heap[gb274]? = some (.cells #[(.slice none 0 0), (.slice none 0 0)] 26 (0, 0))) ∧ Aside0 (Below w.heap.size w wc))
 case first =>
  have H := HC4.out; clear HC4; replace H := Option.bind_eq_some_iff.mp H
  obtain ⟨t275, A70, H⟩ := H
  replace H : (if t275 = true then ((impl_in.f a2 0 200).bind fun t276 => (impl_RunRing.j0 k l1 a2 (!t276) l0_0 l0_1)) else (impl_RunRing.j0 k l1 a2 true l0_0 l0_1)) = some (r1, r2, r3) := H
  have A7 := Aside0.mk A70; clear A70
  by_cases c8 : t275 = true
  ·subst c8
   have H1 : ((impl_in.f a2 0 200).bind fun t276 => (impl_RunRing.j0 k l1 a2 (!t276) l0_0 l0_1)) = some (r1, r2, r3) := by rw [if_pos rfl] at H; exact H
   clear H; have H := H1; clear H1; replace H := Option.bind_eq_some_iff.mp H
   obtain ⟨t276, A90, H⟩ := H
   replace H : (impl_RunRing.j0 k l1 a2 (!t276) l0_0 l0_1) = some (r1, r2, r3) := H
   have A9 := Aside0.mk A90; clear A90; have H' := Aside0.mk H; clear H; have hnb10 := NB273_274.out; have hnc10 := NB274_273.out
   have hcz11_0 : w6.cell? ⟨gb273, 0, none⟩ = some (.slice A0_0 l0_0.length c0_0) := (blk_cell BK273.out 0).trans rfl
   have hcz11_1 : w6.cell? ⟨gb273, 1, none⟩ = some (.slice A0_1 l0_1.length c0_1) := (blk_cell BK273.out 1).trans rfl
   have hfz11_0 := blk_frozen BK273.out 0; have hfz11_1 := blk_frozen BK273.out 1
   go_wp2_with (first | ((with_reducible refine gate_callee (f := 28) rfl ?_); refine gL_ (some 11) Try.func28 #[.agg #[.slice A0_0 l0_0.length c0_0, .slice A0_1 l0_1.length c0_1], .slice A1 l1.length c1] ?_; (with_reducible refine (impl_windsOk.calls k _ _ l0_0 _ _ l0_1 _ _ l1 true _ ?side1 ?side2 ?side3 ?side4 ?side5 ?side6 A7.out).mono ?_); (case side1 => exact cB_ HR0_0 HB); (case side2 => exact HC0_0.out); (case side3 => exact cB_ HR0_1 HB); (case side4 => exact HC0_1.out); (case side5 => exact cB_ HR1 HB); (case side6 => exact HC1.out); rintro e w12 ⟨rfl, hb⟩; refine ⟨_, rfl, ?_⟩; replace BK273 := bB_ BK273 hb; replace BK274 := bB_ BK274 hb; replace HB := bS_ HB hb; (try clear hb); (try clear hb2); (try clear hk); (try clear hi)) | (go_at_call 29; (with_reducible refine (impl_in.calls a2 0 200 t276 _ A9.out).mono ?_); rintro e w' ⟨rfl, ⟨nd, rfl⟩⟩))
   go_meet
   case rel => exact ⟨_, (!t276), (by first | rfl | (simp; done) | (simp [*]; done)), H', ⟨by first | omega | exact Nat.le_refl _⟩, ⟨by exact bT_ BK273⟩, ⟨by exact bT_ BK274⟩, ⟨by repeat (first | (with_reducible first | exact HB.out | apply below_alloc | apply pw_below_drewN | apply below_drew1 | refine below_set ?_ GE273.out | refine below_set ?_ GE274.out) | exact HB.out)⟩⟩
  ·replace c8 := Bool.eq_false_iff.mpr c8
   subst c8
   have H1 : (impl_RunRing.j0 k l1 a2 true l0_0 l0_1) = some (r1, r2, r3) := by rw [if_neg (show ¬ (false = true) by decide)] at H; exact H
   clear H; have H := H1; clear H1; have H' := Aside0.mk H; clear H; have hnb13 := NB273_274.out; have hnc13 := NB274_273.out
   have hcz14_0 : w6.cell? ⟨gb273, 0, none⟩ = some (.slice A0_0 l0_0.length c0_0) := (blk_cell BK273.out 0).trans rfl
   have hcz14_1 : w6.cell? ⟨gb273, 1, none⟩ = some (.slice A0_1 l0_1.length c0_1) := (blk_cell BK273.out 1).trans rfl
   have hfz14_0 := blk_frozen BK273.out 0; have hfz14_1 := blk_frozen BK273.out 1
   go_wp2_with (first | ((with_reducible refine gate_callee (f := 28) rfl ?_); refine gL_ (some 11) Try.func28 #[.agg #[.slice A0_0 l0_0.length c0_0, .slice A0_1 l0_1.length c0_1], .slice A1 l1.length c1] ?_; (with_reducible refine (impl_windsOk.calls k _ _ l0_0 _ _ l0_1 _ _ l1 false _ ?side1 ?side2 ?side3 ?side4 ?side5 ?side6 A7.out).mono ?_); (case side1 => exact cB_ HR0_0 HB); (case side2 => exact HC0_0.out); (case side3 => exact cB_ HR0_1 HB); (case side4 => exact HC0_1.out); (case side5 => exact cB_ HR1 HB); (case side6 => exact HC1.out); rintro e w15 ⟨rfl, hb⟩; refine ⟨_, rfl, ?_⟩; replace BK273 := bB_ BK273 hb; replace BK274 := bB_ BK274 hb; replace HB := bS_ HB hb; (try clear hb); (try clear hb2); (try clear hk); (try clear hi)))
   go_meet
   case rel => exact ⟨_, (true), (by first | rfl | (simp; done) | (simp [*]; done)), H', ⟨by first | omega | exact Nat.le_refl _⟩, ⟨by exact bT_ BK273⟩, ⟨by exact bT_ BK274⟩, ⟨by repeat (first | (with_reducible first | exact HB.out | apply below_alloc | apply pw_below_drewN | apply below_drew1 | refine below_set ?_ GE273.out | refine below_set ?_ GE274.out) | exact HB.out)⟩⟩
 case rest =>
  clear HC4; (try clear c1); (try clear c2); (try clear p2); (try clear c8); (try clear c10); (try clear c13); (try clear hcz11_0); (try clear hcz11_1); (try clear hcz14_0); (try clear hcz14_1); (try clear hfz11_0); (try clear hfz11_1); (try clear hfz14_0); (try clear hfz14_1)
  obtain ⟨kq, x17_3, rfl, HA, HJ3, BK273, BK274, HB⟩ := hcut
  cases kq with
  | zero => exact absurd HA.out (by simp [impl_RunRing.j0])
  | succ kj3 =>
   have H := HA.out; clear HA
   simp only [impl_RunRing.j0] at H
   by_cases c16 : x17_3 = true
   ·subst c16
    have H1 : (some (([] : List Int), ([] : List Int), false)) = some (r1, r2, r3) := by rw [if_pos rfl] at H; exact H
    clear H; have H := H1; clear H1
    simp only [Option.some.injEq, Prod.mk.injEq] at H
    obtain ⟨rfl, rfl, rfl⟩ := H
    have hnb17 := NB274_273.out; have hnc17 := NB273_274.out
    have hcz18_0 : wc.cell? ⟨gb274, 0, none⟩ = some (.slice none 0 0) := (blk_cell BK274.out 0).trans rfl
    have hcz18_1 : wc.cell? ⟨gb274, 1, none⟩ = some (.slice none 0 0) := (blk_cell BK274.out 1).trans rfl
    have hfz18_0 := blk_frozen BK274.out 0; have hfz18_1 := blk_frozen BK274.out 1
    go_wp2
    refine bodyPost_ret (results_ct rfl _ _ gb274 26 #[.slice none 0 0, .slice none 0 0] (0, 0) _ rfl (by (with_reducible repeat (first | refine blk_drewN ?_ _ | refine blk_drew ?_ | refine blk_alloc ?_ _)); refine blk_put (cs := #[.slice none 0 0, .slice none 0 0]) ?_ 1 _ rfl; (with_reducible repeat (first | refine blk_drewN ?_ _ | refine blk_drew ?_ | refine blk_alloc ?_ _)); refine blk_put (cs := #[.slice none 0 0, .slice none 0 0]) ?_ 0 _ rfl; exact bT_ BK274) Try.underlying26 rfl (by kernel_rfl)) rfl ?_
    exact ⟨_, _, by first | rfl | (simp [errW_none, errW_some] <;> rfl) | (simp [*, errW_none, errW_some] <;> rfl), by first | exact Kd.R_nil _ _ _ _ _ | exact Kd.N_nil _ _ _ _ _ | exact Kd.V_nil _ _ _ _ _ | exact Kd.Q_nil _ _ _ _ _ | exact Kd.S_nil _ _ _ _ _, by first | exact Kd.R_nil _ _ _ _ _ | exact Kd.N_nil _ _ _ _ _ | exact Kd.V_nil _ _ _ _ _ | exact Kd.Q_nil _ _ _ _ _ | exact Kd.S_nil _ _ _ _ _, by repeat (first | (with_reducible first | exact HB.out | apply below_alloc | apply pw_below_drewN | apply below_drew1 | refine below_set ?_ GE273.out | refine below_set ?_ GE274.out) | exact HB.out)⟩
   ·replace c16 := Bool.eq_false_iff.mpr c16
    subst c16
    have H1 : ((slices_Clone_int64_int64.f l0_0).bind fun t277 => ((slices_Clone_int64_int64.f l0_1).bind fun t280 => (impl_RunRing.l0 kj3 l1 a2 t277 t280))) = some (r1, r2, r3) := by rw [if_neg (show ¬ (false = true) by decide)] at H; exact H
    clear H; have H := H1; clear H1; replace H := Option.bind_eq_some_iff.mp H
    obtain ⟨t277, A190, H⟩ := H
    replace H : ((slices_Clone_int64_int64.f l0_1).bind fun t280 => (impl_RunRing.l0 kj3 l1 a2 t277 t280)) = some (r1, r2, r3) := H
    have A19 := Aside0.mk A190; clear A190; replace H := Option.bind_eq_some_iff.mp H
    obtain ⟨t280, A200, H⟩ := H
    replace H : (impl_RunRing.l0 kj3 l1 a2 t277 t280) = some (r1, r2, r3) := H
    have A20 := Aside0.mk A200; clear A200; have H' := Aside0.mk H; clear H
    try go_wp2
    replace BK273 := Aside0.mk (blk_drew BK273.out)
    replace BK274 := Aside0.mk (blk_drew BK274.out)
    replace HB := Aside0.mk (below_drew1 HB.out)
    refine start_ (n := 9) (S := fun w' => w'.cell? ⟨gb273, 0, none⟩ = some (.slice A0_0 l0_0.length c0_0) ∧ w'.cell? ⟨gb273, 1, none⟩ = some (.slice A0_1 l0_1.length c0_1)) (ds := []) #[false, false, false, false, false, false, false, false, false] (by kernel_rfl) rfl rfl ⟨(blk_cell BK273.out 0).trans rfl, (blk_cell BK273.out 1).trans rfl⟩ (fun hHeld => ?_); refine with_tabW impl_RunRing.tab3 impl_RunRing.bits3 (fun HT_ HW_ => ?_)
    generalize wc.drew = w21 at BK273 BK274 HB hHeld ⊢
    refine pT_ 0 (some 19) #[true, false, false, false, false, false, false, false, false] HT_ ?_
    refine pT_ 3 (some 22) #[true, false, false, true, false, false, false, false, false] HT_ ?_
    refine tT_ 1 (some 20) #[true, true, false, true, false, false, false, false, false] HT_ HW_ hHeld ?_ (hy := by rintro w' ⟨s0, s1⟩; go_simp; with_reducible rfl)
    refine tT_ 4 (some 23) #[true, true, false, true, true, false, false, false, false] HT_ HW_ hHeld ?_ (hy := by rintro w' ⟨s0, s1⟩; go_simp; with_reducible rfl)
    refine join_ (σ := Value × Value × Nat) 1 #[true, true, true, true, true, true, true, true, false] (fun s_ => [(21, s_.1), (24, s_.2.1), (8, .pointer (some ⟨s_.2.2, 0, none⟩)), (25, .agg #[s_.1, s_.2.1])]) (fun s_ w' => (w'.cell? ⟨gb273, 0, none⟩ = some (.slice A0_0 l0_0.length c0_0) ∧ w'.cell? ⟨gb273, 1, none⟩ = some (.slice A0_1 l0_1.length c0_1)) ∧ (Kd.R (Kd.int .i64) 2 w' w.heap.size (fun k_ => some k_ ≠ (s_.2.1 : Value).ownBlock) s_.1 t277) ∧ (Kd.R (Kd.int .i64) 2 w' w.heap.size (fun k_ => some k_ ≠ (s_.1 : Value).ownBlock) s_.2.1 t280) ∧ (w'.heap[gb273]? = some (.cells #[.slice A0_0 l0_0.length c0_0, .slice A0_1 l0_1.length c0_1] 26 (0, 0))) ∧ (w'.heap[gb274]? = some (.cells #[.slice none 0 0, .slice none 0 0] 26 (0, 0))) ∧ (w'.heap[s_.2.2]? = some (.cells #[.slice none 0 0, .slice none 0 0] 26 (0, 0))) ∧ (w.heap.size ≤ s_.2.2) ∧ (w.heap.size ≤ s_.2.2) ∧ (gb273 ≠ s_.2.2) ∧ (s_.2.2 ≠ gb273) ∧ (gb274 ≠ s_.2.2) ∧ (s_.2.2 ≠ gb274) ∧ (Below w.heap.size w w')) ?_ ?_
    rotate_left
    ·intro hCont
     refine two_ (i := 2) (j := 7) (Ni := some 21) (Nj := some 8) #[true, true, true, true, true, false, false, false, false] #[true, true, false, true, true, false, false, true, false] rfl rfl rfl rfl (two_of HT_.out (by kernel_rfl)) (by decide) (by decide) (fun K hK => ?_) (fun K hK => ?_)
     ·skip
      refine goes_ Try.func32 (by kernel_rfl) rfl #[.slice A0_0 l0_0.length c0_0] (by rfl) rfl rfl (by (try simp only [List.map_toArray, List.map_cons, List.map_nil]); first | done | rfl | (simp only [List.length_drop, List.length_take]; rfl)) ?_
      with_reducible refine (slices_Clone_int64_int64.calls _ _ l0_0 t277 _ ?side1 ?side2 A19.out).mono ?_
      (case side1 => exact cB_ HR0_0 HB)
      (case side2 => exact HC0_0.out)
      rintro e w22 ⟨v278, rfl, ho0, hb⟩
      refine ⟨_, rfl, ?_⟩
      have HO279 := rL_ ho0 HB; replace BK273 := bB_ BK273 hb; replace BK274 := bB_ BK274 hb; replace HB := bS_ HB hb; (try clear hb); (try clear hb2); (try clear hk); (try clear hi); (try clear ho0)
      refine hK.out _ _ ⟨(blk_cell BK273.out 0).trans rfl, (blk_cell BK273.out 1).trans rfl⟩ (fun hHeld => ?_)
      clear hK K
      refine nS_ (some 21) ?_
      refine two_ (i := 5) (j := 7) (Ni := some 24) (Nj := some 8) #[true, true, true, true, true, true, false, false, false] #[true, true, true, true, true, false, false, true, false] rfl rfl rfl rfl (two_of HT_.out (by kernel_rfl)) (by decide) (by decide) (fun K hK => ?_) (fun K hK => ?_)
      ·skip
       refine goes_ Try.func32 (by kernel_rfl) rfl #[.slice A0_1 l0_1.length c0_1] (by rfl) rfl rfl (by (try simp only [List.map_toArray, List.map_cons, List.map_nil]); first | done | rfl | (simp only [List.length_drop, List.length_take]; rfl)) ?_
       with_reducible refine (slices_Clone_int64_int64.calls _ _ l0_1 t280 _ ?side1 ?side2 A20.out).mono ?_
       (case side1 => exact cB_ HR0_1 HB)
       (case side2 => exact HC0_1.out)
       rintro e w23 ⟨v281, rfl, ho0, hb⟩
       refine ⟨_, rfl, ?_⟩
       have HO282 := rL_ (rN_ ho0 HO279) HB
       replace HO279 := rE_ HO279 ho0 hb; replace BK273 := bB_ BK273 hb; replace BK274 := bB_ BK274 hb; replace HB := bS_ HB hb; (try clear hb); (try clear hb2); (try clear hk); (try clear hi); (try clear ho0)
       obtain ⟨Ao24, co24, eo24⟩ := Kd.R_slice HO282.out
       (first | subst eo24 | (injection eo24 with f1_ f2_ f3_; have f4_ := f1_.symm; have f5_ := f3_.symm; clear f1_ f2_ f3_; subst f4_; subst f5_))
       obtain ⟨Ao25, co25, eo25⟩ := Kd.R_slice HO279.out
       (first | subst eo25 | (injection eo25 with f1_ f2_ f3_; have f4_ := f1_.symm; have f5_ := f3_.symm; clear f1_ f2_ f3_; subst f4_; subst f5_))
       refine hK.out _ _ ⟨(blk_cell BK273.out 0).trans rfl, (blk_cell BK273.out 1).trans rfl⟩ (fun hHeld => ?_)
       clear hK K
       refine nS_ (some 24) ?_
       refine pT_ 6 (some 25) #[true, true, true, true, true, true, true, false, false] HT_ ?_
       refine one_ (i := 7) (N := some 8) #[true, true, true, true, true, true, true, true, false] rfl rfl (one_of HT_.out (by kernel_rfl)) (by decide) (fun K hK => ?_)
       refine box_step ?hg (N := 8) ?hd (cs := #[.slice none 0 0, .slice none 0 0]) (t := 26) ?hr ?_; (case hd => rfl); (case hg => rfl); (case hr => first | (go_simp; done) | (go_simp; rfl))
       intro gb283 hg w26 hbox hb
       replace HO279 := rB_ HO279 hb; replace HO282 := rB_ HO282 hb
       have BK283 := Aside0.mk (hbox)
       have GW283 := gE_ HB hg; have GE283 := gE_ HB hg; replace HB := bS_ HB hb; have NB273_283 := nL_ BK273 hg; have NB283_273 := nG_ BK273 hg; replace BK273 := bB_ BK273 hb; have NB274_283 := nL_ BK274 hg; have NB283_274 := nG_ BK274 hg; replace BK274 := bB_ BK274 hb; clear hb hbox hg
       refine hK.out _ _ ⟨(blk_cell BK273.out 0).trans rfl, (blk_cell BK273.out 1).trans rfl⟩ (fun hHeld => ?_)
       clear hK K
       refine nS_ (some 8) ?_
       exact norm_ (by simp only [putAll, Act.put, List.setIfInBounds_toArray, List.set_cons_zero, List.set_cons_succ]) (hCont (.slice Ao25 t277.length co25, .slice Ao24 t280.length co24, gb283) _ ⟨hHeld, (rM_ HO279), (rM_ HO282), (bT_ BK273), (bT_ BK274), (bT_ BK283), GW283.out, GE283.out, NB273_283.out, NB283_273.out, NB274_283.out, NB283_274.out, (by repeat (first | (with_reducible first | exact HB.out | apply below_alloc | apply pw_below_drewN | apply below_drew1 | refine below_set ?_ GE273.out | refine below_set ?_ GE274.out | refine below_set ?_ GE283.out) | exact HB.out))⟩)
      ·skip
       refine box_step ?hg (N := 8) ?hd (cs := #[.slice none 0 0, .slice none 0 0]) (t := 26) ?hr ?_; (case hd => rfl); (case hg => rfl); (case hr => first | (go_simp; done) | (go_simp; rfl))
       intro gb283 hg w23 hbox hb
       replace HO279 := rB_ HO279 hb
       have BK283 := Aside0.mk (hbox)
       have GW283 := gE_ HB hg; have GE283 := gE_ HB hg; replace HB := bS_ HB hb; have NB273_283 := nL_ BK273 hg; have NB283_273 := nG_ BK273 hg; replace BK273 := bB_ BK273 hb; have NB274_283 := nL_ BK274 hg; have NB283_274 := nG_ BK274 hg; replace BK274 := bB_ BK274 hb; clear hb hbox hg
       refine hK.out _ _ ⟨(blk_cell BK273.out 0).trans rfl, (blk_cell BK273.out 1).trans rfl⟩ (fun hHeld => ?_)
       clear hK K
       refine nS_ (some 8) ?_
       refine one_ (i := 5) (N := some 24) #[true, true, true, true, true, true, false, true, false] rfl rfl (one_of HT_.out (by kernel_rfl)) (by decide) (fun K hK => ?_)
       refine goes_ Try.func32 (by kernel_rfl) rfl #[.slice A0_1 l0_1.length c0_1] (by rfl) rfl rfl (by (try simp only [List.map_toArray, List.map_cons, List.map_nil]); first | done | rfl | (simp only [List.length_drop, List.length_take]; rfl)) ?_
       with_reducible refine (slices_Clone_int64_int64.calls _ _ l0_1 t280 _ ?side1 ?side2 A20.out).mono ?_
       (case side1 => exact cB_ HR0_1 HB)
       (case side2 => exact HC0_1.out)
       rintro e w24 ⟨v281, rfl, ho0, hb⟩
       refine ⟨_, rfl, ?_⟩
       have HO282 := rL_ (rN_ ho0 HO279) HB
       replace HO279 := rE_ HO279 ho0 hb; replace BK273 := bB_ BK273 hb; replace BK274 := bB_ BK274 hb; replace BK283 := bB_ BK283 hb; replace HB := bS_ HB hb; (try clear hb); (try clear hb2); (try clear hk); (try clear hi); (try clear ho0)
       obtain ⟨Ao25, co25, eo25⟩ := Kd.R_slice HO282.out
       (first | subst eo25 | (injection eo25 with f1_ f2_ f3_; have f4_ := f1_.symm; have f5_ := f3_.symm; clear f1_ f2_ f3_; subst f4_; subst f5_))
       obtain ⟨Ao26, co26, eo26⟩ := Kd.R_slice HO279.out
       (first | subst eo26 | (injection eo26 with f1_ f2_ f3_; have f4_ := f1_.symm; have f5_ := f3_.symm; clear f1_ f2_ f3_; subst f4_; subst f5_))
       refine hK.out _ _ ⟨(blk_cell BK273.out 0).trans rfl, (blk_cell BK273.out 1).trans rfl⟩ (fun hHeld => ?_)
       clear hK K
       refine nS_ (some 24) ?_
       refine pT_ 6 (some 25) #[true, true, true, true, true, true, true, true, false] HT_ ?_
       exact norm_ (by simp only [putAll, Act.put, List.setIfInBounds_toArray, List.set_cons_zero, List.set_cons_succ]) (hCont (.slice Ao26 t277.length co26, .slice Ao25 t280.length co25, gb283) _ ⟨hHeld, (rM_ HO279), (rM_ HO282), (bT_ BK273), (bT_ BK274), (bT_ BK283), GW283.out, GE283.out, NB273_283.out, NB283_273.out, NB274_283.out, NB283_274.out, (by repeat (first | (with_reducible first | exact HB.out | apply below_alloc | apply pw_below_drewN | apply below_drew1 | refine below_set ?_ GE273.out | refine below_set ?_ GE274.out | refine below_set ?_ GE283.out) | exact HB.out))⟩)
     ·skip
      refine box_step ?hg (N := 8) ?hd (cs := #[.slice none 0 0, .slice none 0 0]) (t := 26) ?hr ?_; (case hd => rfl); (case hg => rfl); (case hr => first | (go_simp; done) | (go_simp; rfl))
      intro gb283 hg w22 hbox hb
      have BK283 := Aside0.mk (hbox)
      have GW283 := gE_ HB hg; have GE283 := gE_ HB hg; replace HB := bS_ HB hb; have NB273_283 := nL_ BK273 hg; have NB283_273 := nG_ BK273 hg; replace BK273 := bB_ BK273 hb; have NB274_283 := nL_ BK274 hg; have NB283_274 := nG_ BK274 hg; replace BK274 := bB_ BK274 hb; clear hb hbox hg
      refine hK.out _ _ ⟨(blk_cell BK273.out 0).trans rfl, (blk_cell BK273.out 1).trans rfl⟩ (fun hHeld => ?_)
      clear hK K
      refine nS_ (some 8) ?_
      refine one_ (i := 2) (N := some 21) #[true, true, true, true, true, false, false, true, false] rfl rfl (one_of HT_.out (by kernel_rfl)) (by decide) (fun K hK => ?_)
      refine goes_ Try.func32 (by kernel_rfl) rfl #[.slice A0_0 l0_0.length c0_0] (by rfl) rfl rfl (by (try simp only [List.map_toArray, List.map_cons, List.map_nil]); first | done | rfl | (simp only [List.length_drop, List.length_take]; rfl)) ?_
      with_reducible refine (slices_Clone_int64_int64.calls _ _ l0_0 t277 _ ?side1 ?side2 A19.out).mono ?_
      (case side1 => exact cB_ HR0_0 HB)
      (case side2 => exact HC0_0.out)
      rintro e w23 ⟨v278, rfl, ho0, hb⟩
      refine ⟨_, rfl, ?_⟩
      have HO279 := rL_ ho0 HB; replace BK273 := bB_ BK273 hb; replace BK274 := bB_ BK274 hb; replace BK283 := bB_ BK283 hb; replace HB := bS_ HB hb; (try clear hb); (try clear hb2); (try clear hk); (try clear hi); (try clear ho0)
      refine hK.out _ _ ⟨(blk_cell BK273.out 0).trans rfl, (blk_cell BK273.out 1).trans rfl⟩ (fun hHeld => ?_)
      clear hK K
      refine nS_ (some 21) ?_
      refine one_ (i := 5) (N := some 24) #[true, true, true, true, true, true, false, true, false] rfl rfl (one_of HT_.out (by kernel_rfl)) (by decide) (fun K hK => ?_)
      refine goes_ Try.func32 (by kernel_rfl) rfl #[.slice A0_1 l0_1.length c0_1] (by rfl) rfl rfl (by (try simp only [List.map_toArray, List.map_cons, List.map_nil]); first | done | rfl | (simp only [List.length_drop, List.length_take]; rfl)) ?_
      with_reducible refine (slices_Clone_int64_int64.calls _ _ l0_1 t280 _ ?side1 ?side2 A20.out).mono ?_
      (case side1 => exact cB_ HR0_1 HB)
      (case side2 => exact HC0_1.out)
      rintro e w24 ⟨v281, rfl, ho0, hb⟩
      refine ⟨_, rfl, ?_⟩
      have HO282 := rL_ (rN_ ho0 HO279) HB
      replace HO279 := rE_ HO279 ho0 hb; replace BK273 := bB_ BK273 hb; replace BK274 := bB_ BK274 hb; replace BK283 := bB_ BK283 hb; replace HB := bS_ HB hb; (try clear hb); (try clear hb2); (try clear hk); (try clear hi); (try clear ho0)
      obtain ⟨Ao25, co25, eo25⟩ := Kd.R_slice HO282.out
      (first | subst eo25 | (injection eo25 with f1_ f2_ f3_; have f4_ := f1_.symm; have f5_ := f3_.symm; clear f1_ f2_ f3_; subst f4_; subst f5_))
      obtain ⟨Ao26, co26, eo26⟩ := Kd.R_slice HO279.out
      (first | subst eo26 | (injection eo26 with f1_ f2_ f3_; have f4_ := f1_.symm; have f5_ := f3_.symm; clear f1_ f2_ f3_; subst f4_; subst f5_))
      refine hK.out _ _ ⟨(blk_cell BK273.out 0).trans rfl, (blk_cell BK273.out 1).trans rfl⟩ (fun hHeld => ?_)
      clear hK K
      refine nS_ (some 24) ?_
      refine pT_ 6 (some 25) #[true, true, true, true, true, true, true, true, false] HT_ ?_
      exact norm_ (by simp only [putAll, Act.put, List.setIfInBounds_toArray, List.set_cons_zero, List.set_cons_succ]) (hCont (.slice Ao26 t277.length co26, .slice Ao25 t280.length co25, gb283) _ ⟨hHeld, (rM_ HO279), (rM_ HO282), (bT_ BK273), (bT_ BK274), (bT_ BK283), GW283.out, GE283.out, NB273_283.out, NB283_273.out, NB274_283.out, NB283_274.out, (by repeat (first | (with_reducible first | exact HB.out | apply below_alloc | apply pw_below_drewN | apply below_drew1 | refine below_set ?_ GE273.out | refine below_set ?_ GE274.out | refine below_set ?_ GE283.out) | exact HB.out))⟩)
    rintro ⟨v278, v281, gb283⟩ w27 ⟨hS_, h0_, h1_, h2_, h3_, h4_, h5_, h6_, h7_, h8_, h9_, h10_, h11_⟩
    try dsimp only at h0_ h1_ h2_ h3_ h4_ h5_ h6_ h7_ h8_ h9_ h10_ h11_
    have HO279 := Aside0.mk h0_; have HO282 := Aside0.mk h1_; replace BK273 := Aside0.mk h2_; replace BK274 := Aside0.mk h3_; have BK283 := Aside0.mk h4_; have GW283 := Aside0.mk h5_; have GE283 := Aside0.mk h6_; have NB273_283 := Aside0.mk h7_; have NB283_273 := Aside0.mk h8_; have NB274_283 := Aside0.mk h9_; have NB283_274 := Aside0.mk h10_; replace HB := Aside0.mk h11_; clear h0_ h1_ h2_ h3_ h4_ h5_ h6_ h7_ h8_ h9_ h10_ h11_
    have hHeld : w27.cell? ⟨gb273, 0, none⟩ = some (.slice A0_0 l0_0.length c0_0) ∧ w27.cell? ⟨gb273, 1, none⟩ = some (.slice A0_1 l0_1.length c0_1) := hS_
    obtain ⟨Ao28, co28, eo28⟩ := Kd.R_slice HO282.out
    (first | subst eo28 | (injection eo28 with f1_ f2_ f3_; have f4_ := f1_.symm; have f5_ := f3_.symm; clear f1_ f2_ f3_; subst f4_; subst f5_))
    obtain ⟨Ao29, co29, eo29⟩ := Kd.R_slice HO279.out
    (first | subst eo29 | (injection eo29 with f1_ f2_ f3_; have f4_ := f1_.symm; have f5_ := f3_.symm; clear f1_ f2_ f3_; subst f4_; subst f5_))
    refine norm_ (a' := ?_) ?_ ?_
    rotate_left
    ·simp only [putAll, Act.put, List.setIfInBounds_toArray, List.set_cons_zero, List.set_cons_succ]
     rfl
    refine one_ (i := 8) (N := none) #[true, true, true, true, true, true, true, true, true] rfl rfl (one_of HT_.out (by kernel_rfl)) (by decide) (fun K hK => ?_)
    have hs30 : w27.cell? ⟨gb283, 0, none⟩ = some (.slice none 0 0) := (blk_cell BK283.out 0).trans rfl
    have hfs30 := blk_frozen BK283.out 0; have hns30_0 := NB273_283.out; have hns30_1 := NB274_283.out; have hms30_0 := NB283_273.out; have hms30_1 := NB283_274.out
    have hs31 : w27.cell? ⟨gb283, 1, none⟩ = some (.slice none 0 0) := (blk_cell BK283.out 1).trans rfl
    have hfs31 := blk_frozen BK283.out 1; have hns31_0 := NB273_283.out; have hns31_1 := NB274_283.out; have hms31_0 := NB283_273.out; have hms31_1 := NB283_274.out
    refine skip_ (w1 := ?_) (by rfl) rfl ?_ ?_
    rotate_left
    ·go_simp
     rfl
    refine hK.out _ _ ⟨((cell_far (p := ⟨gb283, _, none⟩) NB273_283.out _).trans (((cell_far (p := ⟨gb283, _, none⟩) NB273_283.out _).trans (hHeld.1)))), ((cell_far (p := ⟨gb283, _, none⟩) NB273_283.out _).trans (((cell_far (p := ⟨gb283, _, none⟩) NB273_283.out _).trans (hHeld.2))))⟩ (fun hHeld => ?_)
    clear hK K
    refine done_ (done_of HT_.out (by kernel_rfl)) ?_
    try go_wp2
    go_loopg [2] kj3 (fun kq v2 w' => ∃ (x2_2 : Int) (x284000_2 : List Int) (x284001_2 : List Int) (u284000 : Value) (u284001 : Value), v2 = .int .i64 x2_2 ∧ Aside0 (impl_RunRing.l0 kq l1 x2_2 x284000_2 x284001_2 = some (r1, r2, r3)) ∧ Aside0 (kq ≤ kj3) ∧ Aside0 (Kd.R (Kd.int .i64) 2 w' w.heap.size (fun k_ => some k_ ≠ (u284001 : Value).ownBlock) u284000 x284000_2) ∧ Aside0 (Kd.R (Kd.int .i64) 2 w' w.heap.size (fun k_ => some k_ ≠ (u284000 : Value).ownBlock) u284001 x284001_2) ∧ Aside0 (w'.heap[gb273]? = some (.cells #[(.slice A0_0 l0_0.length c0_0), (.slice A0_1 l0_1.length c0_1)] 26 (0, 0))) ∧ Aside0 (w'.heap[gb274]? = some (.cells #[(.slice none 0 0), (.slice none 0 0)] 26 (0, 0))) ∧ Aside0 (w'.heap[gb283]? = some (.cells #[u284000, u284001] 26 (0, 0))) ∧ Aside0 (Below w.heap.size w w'))
    case atStart => exact ⟨(a2), (t277), (t280), (.slice Ao29 t277.length co29), (.slice Ao28 t280.length co28), (by first | rfl | (simp; done) | (simp [*]; done)), H', ⟨Nat.le_refl _⟩, ⟨by (with_reducible repeat (first | apply Kd.R_alloc | apply Kd.R_drewN | apply Kd.R_drew)); exact Kd.R_mono (Kd.R_far (p := ⟨gb283, 1, none⟩) (Kd.R_far (p := ⟨gb283, 0, none⟩) (Kd.R_types HO279.out BK283.out (by decide)) (fun _ hk => hk.2) (.slice Ao29 t277.length co29)) (fun _ hk => hk.2) (.slice Ao28 t280.length co28)) (fun _ hk => hk.1)⟩, ⟨by (with_reducible repeat (first | apply Kd.R_alloc | apply Kd.R_drewN | apply Kd.R_drew)); exact Kd.R_mono (Kd.R_far (p := ⟨gb283, 1, none⟩) (Kd.R_far (p := ⟨gb283, 0, none⟩) (Kd.R_types HO282.out BK283.out (by decide)) (fun _ hk => hk.2) (.slice Ao29 t277.length co29)) (fun _ hk => hk.2) (.slice Ao28 t280.length co28)) (fun _ hk => hk.1)⟩, ⟨by (with_reducible repeat (first | refine blk_drewN ?_ _ | refine blk_drew ?_ | refine blk_alloc ?_ _)); refine blk_far ?_ NB273_283.out _; (with_reducible repeat (first | refine blk_drewN ?_ _ | refine blk_drew ?_ | refine blk_alloc ?_ _)); refine blk_far ?_ NB273_283.out _; exact bT_ BK273⟩, ⟨by (with_reducible repeat (first | refine blk_drewN ?_ _ | refine blk_drew ?_ | refine blk_alloc ?_ _)); refine blk_far ?_ NB274_283.out _; (with_reducible repeat (first | refine blk_drewN ?_ _ | refine blk_drew ?_ | refine blk_alloc ?_ _)); refine blk_far ?_ NB274_283.out _; exact bT_ BK274⟩, ⟨by (with_reducible repeat (first | refine blk_drewN ?_ _ | refine blk_drew ?_ | refine blk_alloc ?_ _)); refine blk_put (cs := #[.slice Ao29 t277.length co29, .slice none 0 0]) ?_ 1 _ rfl; (with_reducible repeat (first | refine blk_drewN ?_ _ | refine blk_drew ?_ | refine blk_alloc ?_ _)); refine blk_put (cs := #[.slice none 0 0, .slice none 0 0]) ?_ 0 _ rfl; exact bT_ BK283⟩, ⟨by repeat (first | (with_reducible first | exact HB.out | apply below_alloc | apply pw_below_drewN | apply below_drew1 | refine below_set ?_ GE273.out | refine below_set ?_ GE274.out | refine below_set ?_ GE283.out) | exact HB.out)⟩⟩
    case round =>
     clear H'; (try clear c1); (try clear c2); (try clear p2); (try clear c3); (try clear c8); (try clear c10); (try clear c13); (try clear c16); (try clear c17); (try clear c28); (try clear hcz11_0); (try clear hcz11_1); (try clear hcz14_0); (try clear hcz14_1); (try clear hcz18_0); (try clear hcz18_1); (try clear hfz11_0); (try clear hfz11_1); (try clear hfz14_0); (try clear hfz14_1); (try clear hfz18_0); (try clear hfz18_1); (try clear p2)
     obtain ⟨x2_2, x284000_2, x284001_2, u284000, u284001, rfl, HA, HK2, HO_284000, HO_284001, BK273, BK274, BK283, HB⟩ := hrel
     cases gk with
     | zero => exact absurd HA.out (by simp [impl_RunRing.l0])
     | succ k2 =>
      have H := HA.out; clear HA
      simp only [impl_RunRing.l0] at H
      by_cases c32 : x2_2 > 0
      ·rw [if_pos c32] at H
       have c32b0 : decide (0 < x2_2) = true := decide_eq_true c32
       clear c32; replace H := Option.bind_eq_some_iff.mp H
       obtain ⟨⟨t284, t287⟩, A330, H⟩ := H
       replace H : (impl_RunRing.l0 k2 l1 (wrap64 (x2_2 - 1)) t284 t287) = some (r1, r2, r3) := H
       have A33 := Aside0.mk A330; clear A330; have H' := Aside0.mk H; clear H; have hnb34 := NB283_273.out; have hnc34 := NB273_283.out; have hnb35 := NB283_274.out; have hnc35 := NB274_283.out
       have hcz36_0 : wr.cell? ⟨gb283, 0, none⟩ = some (u284000) := (blk_cell BK283.out 0).trans rfl
       have hcz36_1 : wr.cell? ⟨gb283, 1, none⟩ = some (u284001) := (blk_cell BK283.out 1).trans rfl
       have hfz36_0 := blk_frozen BK283.out 0; have hfz36_1 := blk_frozen BK283.out 1
       obtain ⟨Ao37, co37, eo37⟩ := Kd.R_slice HO_284000.out
       subst eo37
       obtain ⟨Ao38, co38, eo38⟩ := Kd.R_slice HO_284001.out
       subst eo38
       go_wp2_with (first | ((with_reducible refine gate_callee (f := 30) rfl ?_); refine gL_ (some 32) Try.func30 #[.agg #[.slice Ao37 x284000_2.length co37, .slice Ao38 x284001_2.length co38], .slice A1 l1.length c1] ?_; (with_reducible refine (impl_advect.calls k2 _ _ x284000_2 _ _ x284001_2 _ _ l1 t284 t287 _ ?side1 ?side2 ?side3 ?side4 ?side5 ?side6 A33.out).mono ?_); (case side1 => exact rD_ HO_284000); (case side2 => exact (Kd.R_reads' HO_284000.out).2.1); (case side3 => exact rD_ HO_284001); (case side4 => exact (Kd.R_reads' HO_284001.out).2.1); (case side5 => exact cB_ HR1 HB); (case side6 => exact HC1.out); rintro e w39 ⟨v285, v288, rfl, ho0, ho1, hb⟩; refine ⟨_, rfl, ?_⟩; have HO286 := rL_ (rN_ (rN_ ho0 HO_284000) HO_284001) HB; have HO289 := rL_ (rN_ (rN_ ho1 HO_284000) HO_284001) HB; replace HO_284000 := Aside0.mk (Kd.R_mono (Kd.R_told (Kd.R_told (Kd.R_old (rT_ HO_284000) hb) (Kd.R_base ho0)) (Kd.R_base ho1)) (fun _ h_ => h_.1)); replace HO_284001 := Aside0.mk (Kd.R_mono (Kd.R_told (Kd.R_told (Kd.R_old (rT_ HO_284001) hb) (Kd.R_base ho0)) (Kd.R_base ho1)) (fun _ h_ => h_.1)); replace BK273 := bB_ BK273 hb; replace BK274 := bB_ BK274 hb; replace BK283 := bB_ BK283 hb; replace HB := bS_ HB hb; (try clear hb); (try clear hb2); (try clear hk); (try clear hi); (try clear ho0); (try clear ho1); obtain ⟨Ao40, co40, eo40⟩ := Kd.R_slice HO286.out; subst eo40; have hcz41_0 : w39.cell? ⟨gb283, 0, none⟩ = some (.slice Ao37 x284000_2.length co37) := (blk_cell BK283.out 0).trans rfl; have hcz41_1 : w39.cell? ⟨gb283, 1, none⟩ = some (.slice Ao38 x284001_2.length co38) := (blk_cell BK283.out 1).trans rfl; have hfz41_0 := blk_frozen BK283.out 0; have hfz41_1 := blk_frozen BK283.out 1; obtain ⟨Ao42, co42, eo42⟩ := Kd.R_slice HO289.out; subst eo42))
       go_roundg k2
       case measure => have := HJ3.out; have := HK2.out; omega
       case rel => exact ⟨(wrap64 (x2_2 - 1)), (t284), (t287), (.slice Ao40 t284.length co40), (.slice Ao42 t287.length co42), (by first | rfl | (simp; done) | (simp [*]; done)), H', ⟨by have := HJ3.out; have := HK2.out; omega⟩, ⟨by (with_reducible repeat (first | apply Kd.R_alloc | apply Kd.R_drewN | apply Kd.R_drew)); exact Kd.R_mono (Kd.R_far (p := ⟨gb283, 1, none⟩) (Kd.R_far (p := ⟨gb283, 0, none⟩) (Kd.R_types HO286.out BK283.out (by decide)) (fun _ hk => hk.2) (.slice Ao40 t284.length co40)) (fun _ hk => hk.2) (.slice Ao42 t287.length co42)) (fun _ hk => hk.1.1.1)⟩, ⟨by (with_reducible repeat (first | apply Kd.R_alloc | apply Kd.R_drewN | apply Kd.R_drew)); exact Kd.R_mono (Kd.R_far (p := ⟨gb283, 1, none⟩) (Kd.R_far (p := ⟨gb283, 0, none⟩) (Kd.R_types HO289.out BK283.out (by decide)) (fun _ hk => hk.2) (.slice Ao40 t284.length co40)) (fun _ hk => hk.2) (.slice Ao42 t287.length co42)) (fun _ hk => hk.1.1.1)⟩, ⟨by (with_reducible repeat (first | refine blk_drewN ?_ _ | refine blk_drew ?_ | refine blk_alloc ?_ _)); refine blk_far ?_ NB273_283.out _; (with_reducible repeat (first | refine blk_drewN ?_ _ | refine blk_drew ?_ | refine blk_alloc ?_ _)); refine blk_far ?_ NB273_283.out _; exact bT_ BK273⟩, ⟨by (with_reducible repeat (first | refine blk_drewN ?_ _ | refine blk_drew ?_ | refine blk_alloc ?_ _)); refine blk_far ?_ NB274_283.out _; (with_reducible repeat (first | refine blk_drewN ?_ _ | refine blk_drew ?_ | refine blk_alloc ?_ _)); refine blk_far ?_ NB274_283.out _; exact bT_ BK274⟩, ⟨by (with_reducible repeat (first | refine blk_drewN ?_ _ | refine blk_drew ?_ | refine blk_alloc ?_ _)); refine blk_put (cs := #[.slice Ao40 t284.length co40, .slice Ao38 x284001_2.length co38]) ?_ 1 _ rfl; (with_reducible repeat (first | refine blk_drewN ?_ _ | refine blk_drew ?_ | refine blk_alloc ?_ _)); refine blk_put (cs := #[.slice Ao37 x284000_2.length co37, .slice Ao38 x284001_2.length co38]) ?_ 0 _ rfl; exact bT_ BK283⟩, ⟨by repeat (first | (with_reducible first | exact HB.out | apply below_alloc | apply pw_below_drewN | apply below_drew1 | refine below_set ?_ GE273.out | refine below_set ?_ GE274.out | refine below_set ?_ GE283.out) | exact HB.out)⟩⟩
      ·rw [if_neg c32] at H
       have c32b0 : decide (0 < x2_2) = false := decide_eq_false c32
       clear c32
       simp only [Option.some.injEq, Prod.mk.injEq] at H
       obtain ⟨rfl, rfl, rfl⟩ := H
       have hnb43 := NB283_273.out; have hnc43 := NB273_283.out; have hnb44 := NB283_274.out; have hnc44 := NB274_283.out
       have hcz45_0 : wr.cell? ⟨gb283, 0, none⟩ = some (u284000) := (blk_cell BK283.out 0).trans rfl
       have hcz45_1 : wr.cell? ⟨gb283, 1, none⟩ = some (u284001) := (blk_cell BK283.out 1).trans rfl
       have hfz45_0 := blk_frozen BK283.out 0; have hfz45_1 := blk_frozen BK283.out 1
       obtain ⟨Ao46, co46, eo46⟩ := Kd.R_slice HO_284000.out
       subst eo46
       have hnb47 := NB274_273.out; have hnc47 := NB273_274.out
       have hcz48_0 : wr.cell? ⟨gb274, 0, none⟩ = some (.slice none 0 0) := (blk_cell BK274.out 0).trans rfl
       have hcz48_1 : wr.cell? ⟨gb274, 1, none⟩ = some (.slice none 0 0) := (blk_cell BK274.out 1).trans rfl
       have hfz48_0 := blk_frozen BK274.out 0; have hfz48_1 := blk_frozen BK274.out 1
       obtain ⟨Ao49, co49, eo49⟩ := Kd.R_slice HO_284001.out
       subst eo49
       go_wp2
       refine bodyPost_ret (results_ct rfl _ _ gb274 26 #[.slice Ao46 x284000_2.length co46, .slice Ao49 x284001_2.length co49] (0, 0) _ rfl (by (with_reducible repeat (first | refine blk_drewN ?_ _ | refine blk_drew ?_ | refine blk_alloc ?_ _)); refine blk_put (cs := #[.slice Ao46 x284000_2.length co46, .slice none 0 0]) ?_ 1 _ rfl; (with_reducible repeat (first | refine blk_drewN ?_ _ | refine blk_drew ?_ | refine blk_alloc ?_ _)); refine blk_put (cs := #[.slice none 0 0, .slice none 0 0]) ?_ 0 _ rfl; exact bT_ BK274) Try.underlying26 rfl (by kernel_rfl)) rfl ?_
       exact ⟨_, _, by first | rfl | (simp [errW_none, errW_some] <;> rfl) | (simp [*, errW_none, errW_some] <;> rfl), by (with_reducible repeat (first | apply Kd.R_alloc | apply Kd.R_drewN | apply Kd.R_drew)); exact Kd.R_mono (Kd.R_far (p := ⟨gb274, 1, none⟩) (Kd.R_far (p := ⟨gb274, 0, none⟩) (Kd.R_types HO_284000.out BK274.out (by decide)) (fun _ hk => hk.2) (.slice Ao46 x284000_2.length co46)) (fun _ hk => hk.2) (.slice Ao49 x284001_2.length co49)) (fun _ hk => hk.1), by (with_reducible repeat (first | apply Kd.R_alloc | apply Kd.R_drewN | apply Kd.R_drew)); exact Kd.R_mono (Kd.R_far (p := ⟨gb274, 1, none⟩) (Kd.R_far (p := ⟨gb274, 0, none⟩) (Kd.R_types HO_284001.out BK274.out (by decide)) (fun _ hk => hk.2) (.slice Ao46 x284000_2.length co46)) (fun _ hk => hk.2) (.slice Ao49 x284001_2.length co49)) (fun _ hk => hk.1), by repeat (first | (with_reducible first | exact HB.out | apply below_alloc | apply pw_below_drewN | apply below_drew1 | refine below_set ?_ GE273.out | refine below_set ?_ GE274.out | refine below_set ?_ GE283.out) | exact HB.out)⟩

end Go.Proofs.Ytjmpgngndnheaaa.QFnExactRunRing
