-- Written by a program of this session out of the printer's texts and contracts of its own.
import Derived.Test.YtcjhbmjimjbphaaSq
import Derived.Test.YtcjhbmjimjbphaaQFnDescendsx0
import Derived.Test.YtcjhbmjimjbphaaQFnDescendsx3
namespace Go.Proofs.Ytcjhbmjimjbphaa.QFnDescends
open Go.RowKit Go.Proofs.YtcjhbmjimjbphaaW.PrintWords Go.Proofs.YtcjhbmjimjbphaaW.PrintLast Go.Proofs.YtcjhbmjimjbphaaW.PrintMore Go.Proofs.Ytcjhbmjimjbphaa.Sq
attribute [local go_sem] max2_int min2_int max_two min_two max_three min_three max_four min_four   -- for this text's walks alone
set_option linter.unusedVariables false
set_option linter.unusedSimpArgs false
theorem sABelo_4 {b : Nat} {w W : World} (h : Below b w W := by repeat (first | (with_reducible first | exact Aside0.out (by assumption) | apply below_alloc | apply pw_below_drewN | apply below_drew1 | refine below_set ?_ (Aside0.out (by assumption))) | exact Aside0.out (by assumption))) : Below b w W := h

/-! ### impl_ProblemOk: function 31 -/
mutual
def impl_ProblemOk.j0 : Nat → Bool → Int → List Int → List Int → List (S52) → Option (Bool)
 | 0, _, _, _, _, _ => none
 | k + 1, x30, x130000, x130001, x130002, x130003 => if x30 = true then (some false) else (impl_ProblemOk.l0 k x130003 (x130003.length : Int) 0 x130000 x130001 x130002 x130003)
def impl_ProblemOk.l0 : Nat → List (S52) → Int → Int → Int → List Int → List Int → List (S52) → Option (Bool)
 | 0, _, _, _, _, _, _, _ => none
 | k + 1, x32, x33, x34, x130000, x130001, x130002, x130003 => if x34 < x33 then (if 0 ≤ x34 then (if x34 < (x32.length : Int) then ((impl_each.f k ((rd_T52 x32 x34).f0) x130000 (-5) 5).bind fun t135 => (if t135 = true then ((impl_in.f ((rd_T52 x32 x34).f1) (-500) 500).bind fun t136 => (if t136 = true then ((impl_in.f ((rd_T52 x32 x34).f2) 1 5).bind fun t137 => (if t137 = true then (impl_ProblemOk.l0 k x32 x33 (wrap64 (x34 + 1)) x130000 x130001 x130002 x130003) else (some false))) else (some false))) else (some false))) else (none)) else (none)) else (some true)
end
def impl_ProblemOk.f (k : Nat) (a0_0 : Int) (l0_1 : List Int) (l0_2 : List Int) (l0_3 : List (S52)) : Option (Bool) := (impl_in.f a0_0 1 6).bind fun t130 => (if t130 = true then ((impl_each.f k l0_1 a0_0 (-500) 500).bind fun t131 => (if t131 = true then ((impl_each.f k l0_2 a0_0 1 5).bind fun t132 => (if t132 = true then (impl_ProblemOk.j0 k (decide ((l0_3.length : Int) > 20)) a0_0 l0_1 l0_2 l0_3) else (impl_ProblemOk.j0 k true a0_0 l0_1 l0_2 l0_3))) else (impl_ProblemOk.j0 k true a0_0 l0_1 l0_2 l0_3))) else (impl_ProblemOk.j0 k true a0_0 l0_1 l0_2 l0_3))
theorem impl_ProblemOk.mono_l : ∀ k, (∀ y0 y1 y2 y3 y4, LeO (impl_ProblemOk.j0 k y0 y1 y2 y3 y4) (impl_ProblemOk.j0 (k + 1) y0 y1 y2 y3 y4)) ∧ (∀ y0 y1 y2 y3 y4 y5 y6, LeO (impl_ProblemOk.l0 k y0 y1 y2 y3 y4 y5 y6) (impl_ProblemOk.l0 (k + 1) y0 y1 y2 y3 y4 y5 y6))
 | 0 => ⟨fun _ _ _ _ _ r h => by simp [impl_ProblemOk.j0] at h, fun _ _ _ _ _ _ _ r h => by simp [impl_ProblemOk.l0] at h⟩
 | k + 1 => by
  obtain ⟨ih0, ih1⟩ := impl_ProblemOk.mono_l k
  refine ⟨?_, ?_⟩
  intro y0 y1 y2 y3 y4; unfold impl_ProblemOk.j0; rotate_left
  intro y0 y1 y2 y3 y4 y5 y6; unfold impl_ProblemOk.l0; rotate_left
  all_goals repeat' first
  | (with_reducible exact ih0 _ _ _ _ _)
  | (with_reducible exact ih1 _ _ _ _ _ _ _)
  | (with_reducible exact impl_each.mono _ _ _ _ _)
  | (with_reducible exact LeO.refl _)
  | (with_reducible exact LeO.none _)
  | (with_reducible refine LeO.ite ?_ ?_)
  | (with_reducible refine LeO.bind ?_ (fun _ => ?_))
  | exact ih0 _ _ _ _ _
  | exact ih1 _ _ _ _ _ _ _
  | exact impl_each.mono _ _ _ _ _
  | exact LeO.none _
  | refine LeO.ite ?_ ?_
  | refine LeO.bind ?_ (fun _ => ?_)
theorem impl_ProblemOk.mono : ∀ a0 a1 a2 a3 k, LeO (impl_ProblemOk.f k a0 a1 a2 a3) (impl_ProblemOk.f (k + 1) a0 a1 a2 a3) := by
 intro a0 a1 a2 a3 k
 obtain ⟨ih0, ih1⟩ := impl_ProblemOk.mono_l k
 unfold impl_ProblemOk.f
 repeat' first
   | (with_reducible exact ih0 _ _ _ _ _)
   | (with_reducible exact ih1 _ _ _ _ _ _ _)
   | (with_reducible exact impl_each.mono _ _ _ _ _)
   | (with_reducible exact LeO.refl _)
   | (with_reducible exact LeO.none _)
   | (with_reducible refine LeO.ite ?_ ?_)
   | (with_reducible refine LeO.bind ?_ (fun _ => ?_))
   | exact ih0 _ _ _ _ _
   | exact ih1 _ _ _ _ _ _ _
   | exact impl_each.mono _ _ _ _ _
   | exact LeO.none _
   | refine LeO.ite ?_ ?_
   | refine LeO.bind ?_ (fun _ => ?_)
set_option maxHeartbeats 8000000 in
set_option maxRecDepth 100000 in
theorem impl_ProblemOk.calls (k : Nat) (a0_0 : Int) (A0_1 : Option Addr) (c0_1 : Nat) (l0_1 : List Int) (A0_2 : Option Addr) (c0_2 : Nat) (l0_2 : List Int) (A0_3 : Option Addr) (c0_3 : Nat) (l0_3 : List (S52)) (r : Bool) (w : World) (hr0_1 : Kd.C (Kd.int .i64) w A0_1 l0_1.length l0_1) (hc0_1 : l0_1.length ≤ c0_1) (hr0_2 : Kd.C (Kd.int .i64) w A0_2 l0_2.length l0_2) (hc0_2 : l0_2.length ≤ c0_2) (hr0_3 : Kd.C k52 w A0_3 l0_3.length l0_3) (hc0_3 : l0_3.length ≤ c0_3) (h : impl_ProblemOk.f k a0_0 l0_1 l0_2 l0_3 = some r) :
  Calls Try.prog 31 #[.agg #[.int .i64 a0_0, .slice A0_1 l0_1.length c0_1, .slice A0_2 l0_2.length c0_2, .slice A0_3 l0_3.length c0_3]] w fun e w' => e = .returned (.bool r) ∧ Below w.heap.size w w' := by
 have hu30 := Try.underlying30; have hu52 := Try.underlying52; have HR0_1 := Aside0.mk hr0_1; have HC0_1 := Aside0.mk hc0_1; clear hr0_1 hc0_1; have HR0_2 := Aside0.mk hr0_2; have HC0_2 := Aside0.mk hc0_2; clear hr0_2 hc0_2; have HR0_3 := Aside0.mk hr0_3; have HC0_3 := Aside0.mk hc0_3; clear hr0_3 hc0_3
 have HB := Aside0.mk (Below.refl w.heap.size w)
 have H : ((impl_in.f a0_0 1 6).bind fun t130 => (if t130 = true then ((impl_each.f k l0_1 a0_0 (-500) 500).bind fun t131 => (if t131 = true then ((impl_each.f k l0_2 a0_0 1 5).bind fun t132 => (if t132 = true then (impl_ProblemOk.j0 k (decide ((l0_3.length : Int) > 20)) a0_0 l0_1 l0_2 l0_3) else (impl_ProblemOk.j0 k true a0_0 l0_1 l0_2 l0_3))) else (impl_ProblemOk.j0 k true a0_0 l0_1 l0_2 l0_3))) else (impl_ProblemOk.j0 k true a0_0 l0_1 l0_2 l0_3))) = some r := h
 clear h; have HC2 := Aside0.mk H; clear H
 go_enter Try.func31, Try.ntmps31
 go_upto_region 1 with (first | ((with_reducible refine gate_dst (N := 1) rfl ?_); (try (refine gate_guard (by rfl) ?_; dsimp only)); refine box_event ?hg (N := 1) ?hd (cs := #[.int .i64 a0_0, .slice A0_1 l0_1.length c0_1, .slice A0_2 l0_2.length c0_2, .slice A0_3 l0_3.length c0_3]) (t := 30) ?hr ?_; (case hd => rfl); (case hg => rfl); (case hr => first | (go_simp; done) | (go_simp; rfl)); intro gb129 hg w3 hbox hb; have BK129 := Aside0.mk (hbox); have GW129 := gE_ HB hg; have GE129 := gE_ HB hg; replace HB := bS_ HB hb; clear hb hbox hg))
 (try simp only [Act.put, List.setIfInBounds_toArray, List.set_cons_zero, List.set_cons_succ])
 go_cut [30] (fun v30 wc => ∃ (kq : Nat) (x30_1 : Bool), v30 = .bool x30_1 ∧ Aside0 (impl_ProblemOk.j0 kq x30_1 a0_0 l0_1 l0_2 l0_3 = some r) ∧ Aside0 (kq ≤ k) ∧ Aside0 (wc.heap[gb129]? = some (.cells #[.int .i64 a0_0, (.slice A0_1 l0_1.length c0_1), (.slice A0_2 l0_2.length c0_2), (.slice A0_3 l0_3.length c0_3)] 30 (0, 0))) ∧ Aside0 (Below w.heap.size w wc))
 case first =>
  have H := HC2.out; clear HC2; replace H := Option.bind_eq_some_iff.mp H
  obtain ⟨t130, A40, H⟩ := H
  replace H : (if t130 = true then ((impl_each.f k l0_1 a0_0 (-500) 500).bind fun t131 => (if t131 = true then ((impl_each.f k l0_2 a0_0 1 5).bind fun t132 => (if t132 = true then (impl_ProblemOk.j0 k (decide ((l0_3.length : Int) > 20)) a0_0 l0_1 l0_2 l0_3) else (impl_ProblemOk.j0 k true a0_0 l0_1 l0_2 l0_3))) else (impl_ProblemOk.j0 k true a0_0 l0_1 l0_2 l0_3))) else (impl_ProblemOk.j0 k true a0_0 l0_1 l0_2 l0_3)) = some r := H
  have A4 := Aside0.mk A40; clear A40
  by_cases c5 : t130 = true
  ·subst c5
   replace H := ifT_ H; replace H := Option.bind_eq_some_iff.mp H
   obtain ⟨t131, A60, H⟩ := H
   replace H : (if t131 = true then ((impl_each.f k l0_2 a0_0 1 5).bind fun t132 => (if t132 = true then (impl_ProblemOk.j0 k (decide ((l0_3.length : Int) > 20)) a0_0 l0_1 l0_2 l0_3) else (impl_ProblemOk.j0 k true a0_0 l0_1 l0_2 l0_3))) else (impl_ProblemOk.j0 k true a0_0 l0_1 l0_2 l0_3)) = some r := H
   have A6 := Aside0.mk A60; clear A60
   by_cases c7 : t131 = true
   ·subst c7
    replace H := ifT_ H; replace H := Option.bind_eq_some_iff.mp H
    obtain ⟨t132, A80, H⟩ := H
    replace H : (if t132 = true then (impl_ProblemOk.j0 k (decide ((l0_3.length : Int) > 20)) a0_0 l0_1 l0_2 l0_3) else (impl_ProblemOk.j0 k true a0_0 l0_1 l0_2 l0_3)) = some r := H
    have A8 := Aside0.mk A80; clear A80
    by_cases c9 : t132 = true
    ·subst c9
     replace H := ifT_ H; have H' := Aside0.mk H; clear H
     obtain ⟨hcz10_0, hcz10_1, hcz10_2, hcz10_3, hfz10_0, hfz10_1, hfz10_2, hfz10_3⟩ := cf4_ BK129
     go_wp2_with (first | ((with_reducible refine gate_callee (f := 39) rfl ?_); refine gL_ (some 7) Try.func39 #[.int .i64 a0_0, .int .i64 1, .int .i64 6] ?_; (with_reducible refine (impl_in.calls a0_0 1 6 true _ A4.out).mono ?_); rintro e w' ⟨rfl, ⟨nd, rfl⟩⟩; refine ⟨_, rfl, ?_⟩) | (go_at_call 38; (with_reducible refine (impl_each.calls k _ _ l0_1 a0_0 (-500) 500 true _ ?side1 ?side2 A6.out).mono ?_); (case side1 => repeat (first | exact (Kd.C_below HR0_1.out sABelo_4) | (with_reducible refine Kd.C_alloc ?_ _) | (with_reducible refine Kd.C_drewN ?_ _) | (with_reducible refine Kd.C_drew ?_))); (case side2 => exact HC0_1.out); rintro e w' ⟨rfl, ⟨nd, rfl⟩⟩) | (go_at_call 38; (with_reducible refine (impl_each.calls k _ _ l0_2 a0_0 1 5 true _ ?side1 ?side2 A8.out).mono ?_); (case side1 => repeat (first | exact (Kd.C_below HR0_2.out sABelo_4) | (with_reducible refine Kd.C_alloc ?_ _) | (with_reducible refine Kd.C_drewN ?_ _) | (with_reducible refine Kd.C_drew ?_))); (case side2 => exact HC0_2.out); rintro e w' ⟨rfl, ⟨nd, rfl⟩⟩))
     go_meet
     case rel => exact ⟨_, (decide ((l0_3.length : Int) > 20)), (by first | rfl | (simp; done) | (simp [*]; done)), H', ⟨by first | omega | exact Nat.le_refl _⟩, ⟨bT_ BK129⟩, ⟨sABelo_4⟩⟩
    ·replace c9 := Bool.eq_false_iff.mpr c9
     subst c9
     replace H := ifF_ H; have H' := Aside0.mk H; clear H
     obtain ⟨hcz11_0, hcz11_1, hcz11_2, hcz11_3, hfz11_0, hfz11_1, hfz11_2, hfz11_3⟩ := cf4_ BK129
     go_wp2_with (first | ((with_reducible refine gate_callee (f := 39) rfl ?_); refine gL_ (some 7) Try.func39 #[.int .i64 a0_0, .int .i64 1, .int .i64 6] ?_; (with_reducible refine (impl_in.calls a0_0 1 6 true _ A4.out).mono ?_); rintro e w' ⟨rfl, ⟨nd, rfl⟩⟩; refine ⟨_, rfl, ?_⟩) | (go_at_call 38; (with_reducible refine (impl_each.calls k _ _ l0_1 a0_0 (-500) 500 true _ ?side1 ?side2 A6.out).mono ?_); (case side1 => repeat (first | exact (Kd.C_below HR0_1.out sABelo_4) | (with_reducible refine Kd.C_alloc ?_ _) | (with_reducible refine Kd.C_drewN ?_ _) | (with_reducible refine Kd.C_drew ?_))); (case side2 => exact HC0_1.out); rintro e w' ⟨rfl, ⟨nd, rfl⟩⟩) | (go_at_call 38; (with_reducible refine (impl_each.calls k _ _ l0_2 a0_0 1 5 false _ ?side1 ?side2 A8.out).mono ?_); (case side1 => repeat (first | exact (Kd.C_below HR0_2.out sABelo_4) | (with_reducible refine Kd.C_alloc ?_ _) | (with_reducible refine Kd.C_drewN ?_ _) | (with_reducible refine Kd.C_drew ?_))); (case side2 => exact HC0_2.out); rintro e w' ⟨rfl, ⟨nd, rfl⟩⟩))
     go_meet
     case rel => exact ⟨_, (true), (by first | rfl | (simp; done) | (simp [*]; done)), H', ⟨by first | omega | exact Nat.le_refl _⟩, ⟨bT_ BK129⟩, ⟨sABelo_4⟩⟩
   ·replace c7 := Bool.eq_false_iff.mpr c7
    subst c7
    replace H := ifF_ H; have H' := Aside0.mk H; clear H
    obtain ⟨hcz12_0, hcz12_1, hcz12_2, hcz12_3, hfz12_0, hfz12_1, hfz12_2, hfz12_3⟩ := cf4_ BK129
    go_wp2_with (first | ((with_reducible refine gate_callee (f := 39) rfl ?_); refine gL_ (some 7) Try.func39 #[.int .i64 a0_0, .int .i64 1, .int .i64 6] ?_; (with_reducible refine (impl_in.calls a0_0 1 6 true _ A4.out).mono ?_); rintro e w' ⟨rfl, ⟨nd, rfl⟩⟩; refine ⟨_, rfl, ?_⟩) | (go_at_call 38; (with_reducible refine (impl_each.calls k _ _ l0_1 a0_0 (-500) 500 false _ ?side1 ?side2 A6.out).mono ?_); (case side1 => repeat (first | exact (Kd.C_below HR0_1.out sABelo_4) | (with_reducible refine Kd.C_alloc ?_ _) | (with_reducible refine Kd.C_drewN ?_ _) | (with_reducible refine Kd.C_drew ?_))); (case side2 => exact HC0_1.out); rintro e w' ⟨rfl, ⟨nd, rfl⟩⟩))
    go_meet
    case rel => exact ⟨_, (true), (by first | rfl | (simp; done) | (simp [*]; done)), H', ⟨by first | omega | exact Nat.le_refl _⟩, ⟨bT_ BK129⟩, ⟨sABelo_4⟩⟩
  ·replace c5 := Bool.eq_false_iff.mpr c5
   subst c5
   replace H := ifF_ H; have H' := Aside0.mk H; clear H
   obtain ⟨hcz13_0, hcz13_1, hcz13_2, hcz13_3, hfz13_0, hfz13_1, hfz13_2, hfz13_3⟩ := cf4_ BK129
   go_wp2_with (first | ((with_reducible refine gate_callee (f := 39) rfl ?_); refine gL_ (some 7) Try.func39 #[.int .i64 a0_0, .int .i64 1, .int .i64 6] ?_; (with_reducible refine (impl_in.calls a0_0 1 6 false _ A4.out).mono ?_); rintro e w' ⟨rfl, ⟨nd, rfl⟩⟩; refine ⟨_, rfl, ?_⟩))
   go_meet
   case rel => exact ⟨_, (true), (by first | rfl | (simp; done) | (simp [*]; done)), H', ⟨by first | omega | exact Nat.le_refl _⟩, ⟨bT_ BK129⟩, ⟨sABelo_4⟩⟩
 case rest =>
  clear HC2
  obtain ⟨kq, x30_1, rfl, HA, HJ1, BK129, HB⟩ := hcut
  cases kq with
  | zero => exact absurd HA.out (by simp [impl_ProblemOk.j0])
  | succ kj1 =>
   have H := HA.out; clear HA
   simp only [impl_ProblemOk.j0] at H
   by_cases c14 : x30_1 = true
   ·subst c14
    replace H := ifT_ H
    obtain rfl := Option.some.inj H
    go_wp2
    go_ret
    exact ⟨by first | rfl | (simp [errW_none, errW_some] <;> rfl) | (simp [*, errW_none, errW_some] <;> rfl), sABelo_4⟩
   ·replace c14 := Bool.eq_false_iff.mpr c14
    subst c14
    replace H := ifF_ H; have H' := Aside0.mk H; clear H
    obtain ⟨hcz15_0, hcz15_1, hcz15_2, hcz15_3, hfz15_0, hfz15_1, hfz15_2, hfz15_3⟩ := cf4_ BK129
    go_wp2
    go_loopg [34] kj1 (fun kq v34 w' => ∃ (x34_2 : Int), v34 = .int .i64 x34_2 ∧ Aside0 (impl_ProblemOk.l0 kq l0_3 (l0_3.length : Int) x34_2 a0_0 l0_1 l0_2 l0_3 = some r) ∧ Aside0 (kq ≤ kj1) ∧ Aside0 (w'.heap[gb129]? = some (.cells #[.int .i64 a0_0, (.slice A0_1 l0_1.length c0_1), (.slice A0_2 l0_2.length c0_2), (.slice A0_3 l0_3.length c0_3)] 30 (0, 0))) ∧ Aside0 (Below w.heap.size w w'))
    case atStart => exact ⟨(0), (by first | rfl | (simp; done) | (simp [*]; done)), H', ⟨Nat.le_refl _⟩, ⟨bT_ BK129⟩, ⟨sABelo_4⟩⟩
    case round =>
     clear H'; (try clear c14); (try clear hcz15_0); (try clear hcz15_1); (try clear hcz15_2); (try clear hcz15_3); (try clear hfz15_0); (try clear hfz15_1); (try clear hfz15_2); (try clear hfz15_3)
     obtain ⟨x34_2, rfl, HA, HK2, BK129, HB⟩ := hrel
     cases gk with
     | zero => exact absurd HA.out (by simp [impl_ProblemOk.l0])
     | succ k2 =>
      have H := HA.out; clear HA
      simp only [impl_ProblemOk.l0] at H
      by_cases c16 : x34_2 < (l0_3.length : Int)
      ·rw [if_pos c16] at H
       have c16b0 := decide_eq_true c16
       clear c16
       obtain ⟨c17, H⟩ := ifS_ H
       have c17b0 : decide (0 ≤ x34_2) = true := decide_eq_true c17
       clear c17
       obtain ⟨c18, H⟩ := ifS_ H
       have c18b0 : decide (x34_2 < (l0_3.length : Int)) = true := decide_eq_true c18
       clear c18; replace H := Option.bind_eq_some_iff.mp H
       obtain ⟨t135, A190, H⟩ := H
       replace H : (if t135 = true then ((impl_in.f ((rd_T52 l0_3 x34_2).f1) (-500) 500).bind fun t136 => (if t136 = true then ((impl_in.f ((rd_T52 l0_3 x34_2).f2) 1 5).bind fun t137 => (if t137 = true then (impl_ProblemOk.l0 k2 l0_3 (l0_3.length : Int) (wrap64 (x34_2 + 1)) a0_0 l0_1 l0_2 l0_3) else (some false))) else (some false))) else (some false)) = some r := H
       have A19 := Aside0.mk A190; clear A190
       by_cases c20 : t135 = true
       ·subst c20
        replace H := ifT_ H; replace H := Option.bind_eq_some_iff.mp H
        obtain ⟨t136, A210, H⟩ := H
        replace H : (if t136 = true then ((impl_in.f ((rd_T52 l0_3 x34_2).f2) 1 5).bind fun t137 => (if t137 = true then (impl_ProblemOk.l0 k2 l0_3 (l0_3.length : Int) (wrap64 (x34_2 + 1)) a0_0 l0_1 l0_2 l0_3) else (some false))) else (some false)) = some r := H
        have A21 := Aside0.mk A210; clear A210
        by_cases c22 : t136 = true
        ·subst c22
         replace H := ifT_ H; replace H := Option.bind_eq_some_iff.mp H
         obtain ⟨t137, A230, H⟩ := H
         replace H : (if t137 = true then (impl_ProblemOk.l0 k2 l0_3 (l0_3.length : Int) (wrap64 (x34_2 + 1)) a0_0 l0_1 l0_2 l0_3) else (some false)) = some r := H
         have A23 := Aside0.mk A230; clear A230
         by_cases c24 : t137 = true
         ·subst c24
          replace H := ifT_ H; have H' := Aside0.mk H; clear H
          have p133 : 0 ≤ (x34_2 : Int) := dA_
          have q133 : x34_2 < (l0_3.length : Int) := dA_
          obtain ⟨ad133, A133_0, c133_0, e133, hx133_0, hx133_1, hx133_2, hl133_0, hi133_0⟩ := at_T52 HR0_3.out x34_2 p133 q133
          cases e133
          replace hx133_0 := hX_ HB hx133_0
          replace hx133_1 := hX_ HB hx133_1
          replace hx133_2 := hX_ HB hx133_2
          have HR133_0 := Aside0.mk hi133_0; have HC133_0 := Aside0.mk hl133_0; clear hi133_0 hl133_0; replace p133 := eq_true p133; replace q133 := eq_true q133
          go_wp2_with (first | ((with_reducible refine gate_dst (N := 4) rfl ?_); (try (refine gate_guard (by rfl) ?_; dsimp only)); refine box_event ?hg (N := 4) ?hd (cs := #[.slice none 0 0, .int .i64 0, .int .i64 0]) (t := 52) ?hr ?_; (case hd => rfl); (case hg => rfl); (case hr => first | (go_simp; done) | (go_simp; rfl)); intro gb134 hg w25 hbox hb; have BK134 := Aside0.mk (hbox); have GW134 := gE_ HB hg; have GE134 := gE_ HB hg; replace HB := bS_ HB hb; have NB129_134 := nL_ BK129 hg; have NB134_129 := nG_ BK129 hg; replace BK129 := bB_ BK129 hb; clear hb hbox hg; have hnb26 := NB134_129.out; have hnc26 := NB129_134.out; obtain ⟨hcz27_0, hcz27_1, hcz27_2, hfz27_0, hfz27_1, hfz27_2⟩ := cf3_ BK134; obtain ⟨hcz28_0, hcz28_1, hcz28_2, hcz28_3, hfz28_0, hfz28_1, hfz28_2, hfz28_3⟩ := cf4_ BK129) | ((with_reducible refine gate_callee (f := 38) rfl ?_); refine gL_ (some 42) Try.func38 #[.slice A133_0 ((rd_T52 l0_3 x34_2).f0).length c133_0, .int .i64 a0_0, .int .i64 (-5), .int .i64 5] ?_; (with_reducible refine (impl_each.calls k2 _ _ ((rd_T52 l0_3 x34_2).f0) a0_0 (-5) 5 true _ ?side1 ?side2 A19.out).mono ?_); (case side1 => exact Kd.C_below HR133_0.out sABelo_4); (case side2 => exact HC133_0.out); rintro e w' ⟨rfl, ⟨nd, rfl⟩⟩; refine ⟨_, rfl, ?_⟩) | (go_at_call 39; (with_reducible refine (impl_in.calls ((rd_T52 l0_3 x34_2).f1) (-500) 500 true _ A21.out).mono ?_); rintro e w' ⟨rfl, ⟨nd, rfl⟩⟩) | (go_at_call 39; (with_reducible refine (impl_in.calls ((rd_T52 l0_3 x34_2).f2) 1 5 true _ A23.out).mono ?_); rintro e w' ⟨rfl, ⟨nd, rfl⟩⟩))
          go_roundg k2
          case measure => have := HJ1.out; have := HK2.out; omega
          case rel => exact ⟨(wrap64 (x34_2 + 1)), (by first | rfl | (simp; done) | (simp [*]; done)), H', ⟨by have := HJ1.out; have := HK2.out; omega⟩, ⟨bF_ BK129 NB129_134⟩, ⟨sABelo_4⟩⟩
         ·replace c24 := Bool.eq_false_iff.mpr c24
          subst c24
          replace H := ifF_ H
          obtain rfl := Option.some.inj H
          have p133 : 0 ≤ (x34_2 : Int) := dA_
          have q133 : x34_2 < (l0_3.length : Int) := dA_
          obtain ⟨ad133, A133_0, c133_0, e133, hx133_0, hx133_1, hx133_2, hl133_0, hi133_0⟩ := at_T52 HR0_3.out x34_2 p133 q133
          cases e133
          replace hx133_0 := hX_ HB hx133_0
          replace hx133_1 := hX_ HB hx133_1
          replace hx133_2 := hX_ HB hx133_2
          have HR133_0 := Aside0.mk hi133_0; have HC133_0 := Aside0.mk hl133_0; clear hi133_0 hl133_0; replace p133 := eq_true p133; replace q133 := eq_true q133
          go_wp2_with (first | ((with_reducible refine gate_dst (N := 4) rfl ?_); (try (refine gate_guard (by rfl) ?_; dsimp only)); refine box_event ?hg (N := 4) ?hd (cs := #[.slice none 0 0, .int .i64 0, .int .i64 0]) (t := 52) ?hr ?_; (case hd => rfl); (case hg => rfl); (case hr => first | (go_simp; done) | (go_simp; rfl)); intro gb134 hg w29 hbox hb; have BK134 := Aside0.mk (hbox); have GW134 := gE_ HB hg; have GE134 := gE_ HB hg; replace HB := bS_ HB hb; have NB129_134 := nL_ BK129 hg; have NB134_129 := nG_ BK129 hg; replace BK129 := bB_ BK129 hb; clear hb hbox hg; have hnb30 := NB134_129.out; have hnc30 := NB129_134.out; obtain ⟨hcz31_0, hcz31_1, hcz31_2, hfz31_0, hfz31_1, hfz31_2⟩ := cf3_ BK134; obtain ⟨hcz32_0, hcz32_1, hcz32_2, hcz32_3, hfz32_0, hfz32_1, hfz32_2, hfz32_3⟩ := cf4_ BK129) | ((with_reducible refine gate_callee (f := 38) rfl ?_); refine gL_ (some 42) Try.func38 #[.slice A133_0 ((rd_T52 l0_3 x34_2).f0).length c133_0, .int .i64 a0_0, .int .i64 (-5), .int .i64 5] ?_; (with_reducible refine (impl_each.calls k2 _ _ ((rd_T52 l0_3 x34_2).f0) a0_0 (-5) 5 true _ ?side1 ?side2 A19.out).mono ?_); (case side1 => exact Kd.C_below HR133_0.out sABelo_4); (case side2 => exact HC133_0.out); rintro e w' ⟨rfl, ⟨nd, rfl⟩⟩; refine ⟨_, rfl, ?_⟩) | (go_at_call 39; (with_reducible refine (impl_in.calls ((rd_T52 l0_3 x34_2).f1) (-500) 500 true _ A21.out).mono ?_); rintro e w' ⟨rfl, ⟨nd, rfl⟩⟩) | (go_at_call 39; (with_reducible refine (impl_in.calls ((rd_T52 l0_3 x34_2).f2) 1 5 false _ A23.out).mono ?_); rintro e w' ⟨rfl, ⟨nd, rfl⟩⟩))
          go_ret
          exact ⟨by first | rfl | (simp [errW_none, errW_some] <;> rfl) | (simp [*, errW_none, errW_some] <;> rfl), sABelo_4⟩
        ·replace c22 := Bool.eq_false_iff.mpr c22
         subst c22
         replace H := ifF_ H
         obtain rfl := Option.some.inj H
         have p133 : 0 ≤ (x34_2 : Int) := dA_
         have q133 : x34_2 < (l0_3.length : Int) := dA_
         obtain ⟨ad133, A133_0, c133_0, e133, hx133_0, hx133_1, hx133_2, hl133_0, hi133_0⟩ := at_T52 HR0_3.out x34_2 p133 q133
         cases e133
         replace hx133_0 := hX_ HB hx133_0
         replace hx133_1 := hX_ HB hx133_1
         replace hx133_2 := hX_ HB hx133_2
         have HR133_0 := Aside0.mk hi133_0; have HC133_0 := Aside0.mk hl133_0; clear hi133_0 hl133_0; replace p133 := eq_true p133; replace q133 := eq_true q133
         go_wp2_with (first | ((with_reducible refine gate_dst (N := 4) rfl ?_); (try (refine gate_guard (by rfl) ?_; dsimp only)); refine box_event ?hg (N := 4) ?hd (cs := #[.slice none 0 0, .int .i64 0, .int .i64 0]) (t := 52) ?hr ?_; (case hd => rfl); (case hg => rfl); (case hr => first | (go_simp; done) | (go_simp; rfl)); intro gb134 hg w33 hbox hb; have BK134 := Aside0.mk (hbox); have GW134 := gE_ HB hg; have GE134 := gE_ HB hg; replace HB := bS_ HB hb; have NB129_134 := nL_ BK129 hg; have NB134_129 := nG_ BK129 hg; replace BK129 := bB_ BK129 hb; clear hb hbox hg; have hnb34 := NB134_129.out; have hnc34 := NB129_134.out; obtain ⟨hcz35_0, hcz35_1, hcz35_2, hfz35_0, hfz35_1, hfz35_2⟩ := cf3_ BK134; obtain ⟨hcz36_0, hcz36_1, hcz36_2, hcz36_3, hfz36_0, hfz36_1, hfz36_2, hfz36_3⟩ := cf4_ BK129) | ((with_reducible refine gate_callee (f := 38) rfl ?_); refine gL_ (some 42) Try.func38 #[.slice A133_0 ((rd_T52 l0_3 x34_2).f0).length c133_0, .int .i64 a0_0, .int .i64 (-5), .int .i64 5] ?_; (with_reducible refine (impl_each.calls k2 _ _ ((rd_T52 l0_3 x34_2).f0) a0_0 (-5) 5 true _ ?side1 ?side2 A19.out).mono ?_); (case side1 => exact Kd.C_below HR133_0.out sABelo_4); (case side2 => exact HC133_0.out); rintro e w' ⟨rfl, ⟨nd, rfl⟩⟩; refine ⟨_, rfl, ?_⟩) | (go_at_call 39; (with_reducible refine (impl_in.calls ((rd_T52 l0_3 x34_2).f1) (-500) 500 false _ A21.out).mono ?_); rintro e w' ⟨rfl, ⟨nd, rfl⟩⟩))
         go_ret
         exact ⟨by first | rfl | (simp [errW_none, errW_some] <;> rfl) | (simp [*, errW_none, errW_some] <;> rfl), sABelo_4⟩
       ·replace c20 := Bool.eq_false_iff.mpr c20
        subst c20
        replace H := ifF_ H
        obtain rfl := Option.some.inj H
        have p133 : 0 ≤ (x34_2 : Int) := dA_
        have q133 : x34_2 < (l0_3.length : Int) := dA_
        obtain ⟨ad133, A133_0, c133_0, e133, hx133_0, hx133_1, hx133_2, hl133_0, hi133_0⟩ := at_T52 HR0_3.out x34_2 p133 q133
        cases e133
        replace hx133_0 := hX_ HB hx133_0
        replace hx133_1 := hX_ HB hx133_1
        replace hx133_2 := hX_ HB hx133_2
        have HR133_0 := Aside0.mk hi133_0; have HC133_0 := Aside0.mk hl133_0; clear hi133_0 hl133_0; replace p133 := eq_true p133; replace q133 := eq_true q133
        go_wp2_with (first | ((with_reducible refine gate_dst (N := 4) rfl ?_); (try (refine gate_guard (by rfl) ?_; dsimp only)); refine box_event ?hg (N := 4) ?hd (cs := #[.slice none 0 0, .int .i64 0, .int .i64 0]) (t := 52) ?hr ?_; (case hd => rfl); (case hg => rfl); (case hr => first | (go_simp; done) | (go_simp; rfl)); intro gb134 hg w37 hbox hb; have BK134 := Aside0.mk (hbox); have GW134 := gE_ HB hg; have GE134 := gE_ HB hg; replace HB := bS_ HB hb; have NB129_134 := nL_ BK129 hg; have NB134_129 := nG_ BK129 hg; replace BK129 := bB_ BK129 hb; clear hb hbox hg; have hnb38 := NB134_129.out; have hnc38 := NB129_134.out; obtain ⟨hcz39_0, hcz39_1, hcz39_2, hfz39_0, hfz39_1, hfz39_2⟩ := cf3_ BK134; obtain ⟨hcz40_0, hcz40_1, hcz40_2, hcz40_3, hfz40_0, hfz40_1, hfz40_2, hfz40_3⟩ := cf4_ BK129) | ((with_reducible refine gate_callee (f := 38) rfl ?_); refine gL_ (some 42) Try.func38 #[.slice A133_0 ((rd_T52 l0_3 x34_2).f0).length c133_0, .int .i64 a0_0, .int .i64 (-5), .int .i64 5] ?_; (with_reducible refine (impl_each.calls k2 _ _ ((rd_T52 l0_3 x34_2).f0) a0_0 (-5) 5 false _ ?side1 ?side2 A19.out).mono ?_); (case side1 => exact Kd.C_below HR133_0.out sABelo_4); (case side2 => exact HC133_0.out); rintro e w' ⟨rfl, ⟨nd, rfl⟩⟩; refine ⟨_, rfl, ?_⟩))
        go_ret
        exact ⟨by first | rfl | (simp [errW_none, errW_some] <;> rfl) | (simp [*, errW_none, errW_some] <;> rfl), sABelo_4⟩
      ·rw [if_neg c16] at H
       have c16b0 := decide_eq_false c16
       clear c16
       obtain rfl := Option.some.inj H
       go_wp2
       go_ret
       exact ⟨by first | rfl | (simp [errW_none, errW_some] <;> rfl) | (simp [*, errW_none, errW_some] <;> rfl), sABelo_4⟩

/-! ### impl_point: function 32 -/
def impl_point.f (k : Nat) (a0_0 : Int) (l0_1 : List Int) (l0_2 : List Int) (l0_3 : List (S52)) (l1 : List Int) : Option (Bool) := (impl_each.f k l1 a0_0 (-200000) 200000).bind fun t139 => (some t139)
theorem impl_point.mono : ∀ a0 a1 a2 a3 a4 k, LeO (impl_point.f k a0 a1 a2 a3 a4) (impl_point.f (k + 1) a0 a1 a2 a3 a4) := by
 intro a0 a1 a2 a3 a4 k
 unfold impl_point.f
 repeat' first
   | (with_reducible exact impl_each.mono _ _ _ _ _)
   | (with_reducible exact LeO.refl _)
   | (with_reducible exact LeO.none _)
   | (with_reducible refine LeO.ite ?_ ?_)
   | (with_reducible refine LeO.bind ?_ (fun _ => ?_))
   | exact impl_each.mono _ _ _ _ _
   | exact LeO.none _
   | refine LeO.ite ?_ ?_
   | refine LeO.bind ?_ (fun _ => ?_)
set_option maxHeartbeats 8000000 in
set_option maxRecDepth 100000 in
theorem impl_point.calls (k : Nat) (a0_0 : Int) (A0_1 : Option Addr) (c0_1 : Nat) (l0_1 : List Int) (A0_2 : Option Addr) (c0_2 : Nat) (l0_2 : List Int) (A0_3 : Option Addr) (c0_3 : Nat) (l0_3 : List (S52)) (A1 : Option Addr) (c1 : Nat) (l1 : List Int) (r : Bool) (w : World) (hr0_1 : Kd.C (Kd.int .i64) w A0_1 l0_1.length l0_1) (hc0_1 : l0_1.length ≤ c0_1) (hr0_2 : Kd.C (Kd.int .i64) w A0_2 l0_2.length l0_2) (hc0_2 : l0_2.length ≤ c0_2) (hr0_3 : Kd.C k52 w A0_3 l0_3.length l0_3) (hc0_3 : l0_3.length ≤ c0_3) (hr1 : Kd.C (Kd.int .i64) w A1 l1.length l1) (hc1 : l1.length ≤ c1) (h : impl_point.f k a0_0 l0_1 l0_2 l0_3 l1 = some r) :
  Calls Try.prog 32 #[.agg #[.int .i64 a0_0, .slice A0_1 l0_1.length c0_1, .slice A0_2 l0_2.length c0_2, .slice A0_3 l0_3.length c0_3], .slice A1 l1.length c1] w fun e w' => e = .returned (.bool r) ∧ Below w.heap.size w w' := by
 have hu30 := Try.underlying30; have HR0_1 := Aside0.mk hr0_1; have HC0_1 := Aside0.mk hc0_1; clear hr0_1 hc0_1; have HR0_2 := Aside0.mk hr0_2; have HC0_2 := Aside0.mk hc0_2; clear hr0_2 hc0_2; have HR0_3 := Aside0.mk hr0_3; have HC0_3 := Aside0.mk hc0_3; clear hr0_3 hc0_3; have HR1 := Aside0.mk hr1; have HC1 := Aside0.mk hc1; clear hr1 hc1
 have HB := Aside0.mk (Below.refl w.heap.size w)
 have H : ((impl_each.f k l1 a0_0 (-200000) 200000).bind fun t139 => (some t139)) = some r := h
 clear h; replace H := Option.bind_eq_some_iff.mp H
 obtain ⟨t139, A30, H⟩ := H
 replace H : (some t139) = some r := H
 have A3 := Aside0.mk A30; clear A30
 obtain rfl := Option.some.inj H
 go_enter Try.func32, Try.ntmps32
 go_wp2_with (first | ((with_reducible refine gate_dst (N := 2) rfl ?_); refine box_event ?hg (N := 2) ?hd (cs := #[.int .i64 a0_0, .slice A0_1 l0_1.length c0_1, .slice A0_2 l0_2.length c0_2, .slice A0_3 l0_3.length c0_3]) (t := 30) ?hr ?_; (case hd => rfl); (case hg => rfl); (case hr => first | (go_simp; done) | (go_simp; rfl)); intro gb138 hg w4 hbox hb; have BK138 := Aside0.mk (hbox); have GW138 := gE_ HB hg; have GE138 := gE_ HB hg; replace HB := bS_ HB hb; clear hb hbox hg; obtain ⟨hcz5_0, hcz5_1, hcz5_2, hcz5_3, hfz5_0, hfz5_1, hfz5_2, hfz5_3⟩ := cf4_ BK138) | ((with_reducible refine gate_callee (f := 38) rfl ?_); refine gL_ (some 8) Try.func38 #[.slice A1 l1.length c1, .int .i64 a0_0, .int .i64 (-200000), .int .i64 200000] ?_; (with_reducible refine (impl_each.calls k _ _ l1 a0_0 (-200000) 200000 t139 _ ?side1 ?side2 A3.out).mono ?_); (case side1 => exact cB_ HR1 HB); (case side2 => exact HC1.out); rintro e w' ⟨rfl, ⟨nd, rfl⟩⟩; refine ⟨_, rfl, ?_⟩))
 go_ret
 exact ⟨by first | rfl | (simp [errW_none, errW_some] <;> rfl) | (simp [*, errW_none, errW_some] <;> rfl), sABelo_4⟩

end Go.Proofs.Ytcjhbmjimjbphaa.QFnDescends
