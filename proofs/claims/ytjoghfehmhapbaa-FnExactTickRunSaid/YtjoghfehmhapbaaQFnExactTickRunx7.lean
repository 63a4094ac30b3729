-- Written by a program of this session out of the printer's texts and contracts of its own.
import Derived.Test.YtjoghfehmhapbaaSq
import Derived.Test.YtjoghfehmhapbaaQFnExactTickRunx0
import Derived.Test.YtjoghfehmhapbaaQFnExactTickRunx6
namespace Go.Proofs.Ytjoghfehmhapbaa.QFnExactTickRun
open Go.RowKit Go.Proofs.YtjoghfehmhapbaaW.PrintWords Go.Proofs.YtjoghfehmhapbaaW.PrintLast Go.Proofs.YtjoghfehmhapbaaW.PrintMore Go.Proofs.Ytjoghfehmhapbaa.Sq
attribute [local go_sem] max2_int min2_int max_two min_two max_three min_three max_four min_four   -- for this text's walks alone
set_option linter.unusedVariables false
set_option linter.unusedSimpArgs false
theorem sABelo_7 {b : Nat} {w W : World} (h : Below b w W := by repeat (first | (with_reducible first | exact Aside0.out (by assumption) | apply below_alloc | apply pw_below_drewN | apply below_drew1 | refine below_set ?_ (Aside0.out (by assumption))) | exact Aside0.out (by assumption))) : Below b w W := h

/-! ### impl_SuiteOk: function 46 -/
mutual
def impl_SuiteOk.j0 : Nat → Bool → List (S39) → List Int → Option (Bool)
 | 0, _, _, _ => none
 | k + 1, x27, x193000, x193001 => if x27 = true then (some false) else (impl_SuiteOk.l0 k x193000 (x193000.length : Int) 0 x193000 x193001)
def impl_SuiteOk.l0 : Nat → List (S39) → Int → Int → List (S39) → List Int → Option (Bool)
 | 0, _, _, _, _, _ => none
 | k + 1, x29, x30, x31, x193000, x193001 => if x31 < x30 then (if 0 ≤ x31 then (if x31 < (x29.length : Int) then (impl_SuiteOk.l1 k x31 x29 x30 x31 ((rd_T39 x29 x31).f0) (((rd_T39 x29 x31).f0).length : Int) 0 x193000 x193001 ((rd_T39 x29 x31).f0) ((rd_T39 x29 x31).f1) ((rd_T39 x29 x31).f2) ((rd_T39 x29 x31).f3)) else (none)) else (none)) else (some true)
def impl_SuiteOk.l1 : Nat → Int → List (S39) → Int → Int → List Int → Int → Int → List (S39) → List Int → List Int → Int → Int → Int → Option (Bool)
 | 0, _, _, _, _, _, _, _, _, _, _, _, _, _ => none
 | k + 1, x3, x29, x30, x31, x37, x38, x39, x193000, x193001, x198000, x198001, x198002, x198003 => if x39 < x38 then (if 0 ≤ x39 then (if x39 < (x37.length : Int) then ((impl_in.f (rd x37 x39) 1 x3).bind fun t199 => (if t199 = true then (if x39 > 0 then (if 0 ≤ (wrap64 (x39 - 1)) then (if (wrap64 (x39 - 1)) < (x198000.length : Int) then (if (rd x198000 (wrap64 (x39 - 1))) ≥ (rd x37 x39) then (some false) else (impl_SuiteOk.l1 k x3 x29 x30 x31 x37 x38 (wrap64 (x39 + 1)) x193000 x193001 x198000 x198001 x198002 x198003)) else (none)) else (none)) else (impl_SuiteOk.l1 k x3 x29 x30 x31 x37 x38 (wrap64 (x39 + 1)) x193000 x193001 x198000 x198001 x198002 x198003)) else (some false))) else (none)) else (none)) else ((impl_in.f x198001 1 (x193001.length : Int)).bind fun t201 => (if t201 = true then ((impl_in.f x198002 0 1000000000000).bind fun t202 => (if t202 = true then ((impl_in.f x198003 1 5).bind fun t203 => (if t203 = true then (impl_SuiteOk.l0 k x29 x30 (wrap64 (x31 + 1)) x193000 x193001) else (some false))) else (some false))) else (some false)))
end
def impl_SuiteOk.f (k : Nat) (l0_0 : List (S39)) (l0_1 : List Int) : Option (Bool) := (impl_in.f (l0_0.length : Int) 1 60).bind fun t193 => (if t193 = true then ((impl_in.f (l0_1.length : Int) 1 6).bind fun t194 => (if t194 = true then ((impl_each.f k l0_1 (l0_1.length : Int) 1 60).bind fun t195 => (impl_SuiteOk.j0 k (!t195) l0_0 l0_1)) else (impl_SuiteOk.j0 k true l0_0 l0_1))) else (impl_SuiteOk.j0 k true l0_0 l0_1))
theorem impl_SuiteOk.mono_l : ∀ k, (∀ y0 y1 y2, LeO (impl_SuiteOk.j0 k y0 y1 y2) (impl_SuiteOk.j0 (k + 1) y0 y1 y2)) ∧ (∀ y0 y1 y2 y3 y4, LeO (impl_SuiteOk.l0 k y0 y1 y2 y3 y4) (impl_SuiteOk.l0 (k + 1) y0 y1 y2 y3 y4)) ∧ (∀ y0 y1 y2 y3 y4 y5 y6 y7 y8 y9 y10 y11 y12, LeO (impl_SuiteOk.l1 k y0 y1 y2 y3 y4 y5 y6 y7 y8 y9 y10 y11 y12) (impl_SuiteOk.l1 (k + 1) y0 y1 y2 y3 y4 y5 y6 y7 y8 y9 y10 y11 y12))
 | 0 => ⟨fun _ _ _ r h => by simp [impl_SuiteOk.j0] at h, fun _ _ _ _ _ r h => by simp [impl_SuiteOk.l0] at h, fun _ _ _ _ _ _ _ _ _ _ _ _ _ r h => by simp [impl_SuiteOk.l1] at h⟩
 | k + 1 => by
  obtain ⟨ih0, ih1, ih2⟩ := impl_SuiteOk.mono_l k
  refine ⟨?_, ?_, ?_⟩
  intro y0 y1 y2; unfold impl_SuiteOk.j0; rotate_left
  intro y0 y1 y2 y3 y4; unfold impl_SuiteOk.l0; rotate_left
  intro y0 y1 y2 y3 y4 y5 y6 y7 y8 y9 y10 y11 y12; unfold impl_SuiteOk.l1; rotate_left
  all_goals repeat' first
  | (with_reducible exact ih0 _ _ _)
  | (with_reducible exact ih1 _ _ _ _ _)
  | (with_reducible exact ih2 _ _ _ _ _ _ _ _ _ _ _ _ _)
  | (with_reducible exact impl_each.mono _ _ _ _ _)
  | (with_reducible exact LeO.refl _)
  | (with_reducible exact LeO.none _)
  | (with_reducible refine LeO.ite ?_ ?_)
  | (with_reducible refine LeO.bind ?_ (fun _ => ?_))
  | exact ih0 _ _ _
  | exact ih1 _ _ _ _ _
  | exact ih2 _ _ _ _ _ _ _ _ _ _ _ _ _
  | exact impl_each.mono _ _ _ _ _
  | exact LeO.none _
  | refine LeO.ite ?_ ?_
  | refine LeO.bind ?_ (fun _ => ?_)
theorem impl_SuiteOk.mono : ∀ a0 a1 k, LeO (impl_SuiteOk.f k a0 a1) (impl_SuiteOk.f (k + 1) a0 a1) := by
 intro a0 a1 k
 obtain ⟨ih0, ih1, ih2⟩ := impl_SuiteOk.mono_l k
 unfold impl_SuiteOk.f
 repeat' first
   | (with_reducible exact ih0 _ _ _)
   | (with_reducible exact ih1 _ _ _ _ _)
   | (with_reducible exact ih2 _ _ _ _ _ _ _ _ _ _ _ _ _)
   | (with_reducible exact impl_each.mono _ _ _ _ _)
   | (with_reducible exact LeO.refl _)
   | (with_reducible exact LeO.none _)
   | (with_reducible refine LeO.ite ?_ ?_)
   | (with_reducible refine LeO.bind ?_ (fun _ => ?_))
   | exact ih0 _ _ _
   | exact ih1 _ _ _ _ _
   | exact ih2 _ _ _ _ _ _ _ _ _ _ _ _ _
   | exact impl_each.mono _ _ _ _ _
   | exact LeO.none _
   | refine LeO.ite ?_ ?_
   | refine LeO.bind ?_ (fun _ => ?_)
set_option maxHeartbeats 8000000 in
set_option maxRecDepth 100000 in
theorem impl_SuiteOk.calls (k : Nat) (A0_0 : Option Addr) (c0_0 : Nat) (l0_0 : List (S39)) (A0_1 : Option Addr) (c0_1 : Nat) (l0_1 : List Int) (r : Bool) (w : World) (hr0_0 : Kd.C k39 w A0_0 l0_0.length l0_0) (hc0_0 : l0_0.length ≤ c0_0) (hr0_1 : Kd.C (Kd.int .i64) w A0_1 l0_1.length l0_1) (hc0_1 : l0_1.length ≤ c0_1) (h : impl_SuiteOk.f k l0_0 l0_1 = some r) :
  Calls Try.prog 46 #[.agg #[.slice A0_0 l0_0.length c0_0, .slice A0_1 l0_1.length c0_1]] w fun e w' => e = .returned (.bool r) ∧ Below w.heap.size w w' := by
 have hu27 := Try.underlying27; have hu39 := Try.underlying39; have HR0_0 := Aside0.mk hr0_0; have HC0_0 := Aside0.mk hc0_0; clear hr0_0 hc0_0; have HR0_1 := Aside0.mk hr0_1; have HC0_1 := Aside0.mk hc0_1; clear hr0_1 hc0_1
 have HB := Aside0.mk (Below.refl w.heap.size w)
 have H : ((impl_in.f (l0_0.length : Int) 1 60).bind fun t193 => (if t193 = true then ((impl_in.f (l0_1.length : Int) 1 6).bind fun t194 => (if t194 = true then ((impl_each.f k l0_1 (l0_1.length : Int) 1 60).bind fun t195 => (impl_SuiteOk.j0 k (!t195) l0_0 l0_1)) else (impl_SuiteOk.j0 k true l0_0 l0_1))) else (impl_SuiteOk.j0 k true l0_0 l0_1))) = some r := h
 clear h; have HC2 := Aside0.mk H; clear H
 go_enter Try.func46, Try.ntmps46
 go_upto_region 1 with (first | ((with_reducible refine gate_dst (N := 1) rfl ?_); (try (refine gate_guard (by rfl) ?_; dsimp only)); refine box_event ?hg (N := 1) ?hd (cs := #[.slice A0_0 l0_0.length c0_0, .slice A0_1 l0_1.length c0_1]) (t := 27) ?hr ?_; (case hd => rfl); (case hg => rfl); (case hr => first | (go_simp; done) | (go_simp; rfl)); intro gb192 hg w3 hbox hb; have BK192 := Aside0.mk (hbox); have GW192 := gE_ HB hg; have GE192 := gE_ HB hg; replace HB := bS_ HB hb; clear hb hbox hg))
 (try simp only [Act.put, List.setIfInBounds_toArray, List.set_cons_zero, List.set_cons_succ])
 go_cut [27] (fun v27 wc => ∃ (kq : Nat) (x27_1 : Bool), v27 = .bool x27_1 ∧ Aside0 (impl_SuiteOk.j0 kq x27_1 l0_0 l0_1 = some r) ∧ Aside0 (kq ≤ k) ∧ Aside0 (wc.heap[gb192]? = some (.cells #[(.slice A0_0 l0_0.length c0_0), (.slice A0_1 l0_1.length c0_1)] 27 (0, 0))) ∧ Aside0 (Below w.heap.size w wc))
 case first =>
  have H := HC2.out; clear HC2; replace H := Option.bind_eq_some_iff.mp H
  obtain ⟨t193, A40, H⟩ := H
  replace H : (if t193 = true then ((impl_in.f (l0_1.length : Int) 1 6).bind fun t194 => (if t194 = true then ((impl_each.f k l0_1 (l0_1.length : Int) 1 60).bind fun t195 => (impl_SuiteOk.j0 k (!t195) l0_0 l0_1)) else (impl_SuiteOk.j0 k true l0_0 l0_1))) else (impl_SuiteOk.j0 k true l0_0 l0_1)) = some r := H
  have A4 := Aside0.mk A40; clear A40
  by_cases c5 : t193 = true
  ·subst c5
   replace H := ifT_ H; replace H := Option.bind_eq_some_iff.mp H
   obtain ⟨t194, A60, H⟩ := H
   replace H : (if t194 = true then ((impl_each.f k l0_1 (l0_1.length : Int) 1 60).bind fun t195 => (impl_SuiteOk.j0 k (!t195) l0_0 l0_1)) else (impl_SuiteOk.j0 k true l0_0 l0_1)) = some r := H
   have A6 := Aside0.mk A60; clear A60
   by_cases c7 : t194 = true
   ·subst c7
    replace H := ifT_ H; replace H := Option.bind_eq_some_iff.mp H
    obtain ⟨t195, A80, H⟩ := H
    replace H : (impl_SuiteOk.j0 k (!t195) l0_0 l0_1) = some r := H
    have A8 := Aside0.mk A80; clear A80; have H' := Aside0.mk H; clear H
    obtain ⟨hcz9_0, hcz9_1, hfz9_0, hfz9_1⟩ := cf2_ BK192
    go_wp2_with (first | ((with_reducible refine gate_callee (f := 52) rfl ?_); refine gL_ (some 10) Try.func52 #[.int .i64 (l0_0.length : Int), .int .i64 1, .int .i64 60] ?_; (with_reducible refine (impl_in.calls (l0_0.length : Int) 1 60 true _ A4.out).mono ?_); rintro e w' ⟨rfl, ⟨nd, rfl⟩⟩; refine ⟨_, rfl, ?_⟩) | (go_at_call 52; (with_reducible refine (impl_in.calls (l0_1.length : Int) 1 6 true _ A6.out).mono ?_); rintro e w' ⟨rfl, ⟨nd, rfl⟩⟩) | (go_at_call 78; (with_reducible refine (impl_each.calls k _ _ l0_1 (l0_1.length : Int) 1 60 t195 _ ?side1 ?side2 A8.out).mono ?_); (case side1 => repeat (first | exact (Kd.C_below HR0_1.out sABelo_7) | (with_reducible refine Kd.C_alloc ?_ _) | (with_reducible refine Kd.C_drewN ?_ _) | (with_reducible refine Kd.C_drew ?_))); (case side2 => exact HC0_1.out); rintro e w' ⟨rfl, ⟨nd, rfl⟩⟩))
    go_meet
    case rel => exact ⟨_, (!t195), (by first | rfl | (simp; done) | (simp [*]; done)), H', ⟨by first | omega | exact Nat.le_refl _⟩, ⟨bT_ BK192⟩, ⟨sABelo_7⟩⟩
   ·replace c7 := Bool.eq_false_iff.mpr c7
    subst c7
    replace H := ifF_ H; have H' := Aside0.mk H; clear H
    obtain ⟨hcz10_0, hcz10_1, hfz10_0, hfz10_1⟩ := cf2_ BK192
    go_wp2_with (first | ((with_reducible refine gate_callee (f := 52) rfl ?_); refine gL_ (some 10) Try.func52 #[.int .i64 (l0_0.length : Int), .int .i64 1, .int .i64 60] ?_; (with_reducible refine (impl_in.calls (l0_0.length : Int) 1 60 true _ A4.out).mono ?_); rintro e w' ⟨rfl, ⟨nd, rfl⟩⟩; refine ⟨_, rfl, ?_⟩) | (go_at_call 52; (with_reducible refine (impl_in.calls (l0_1.length : Int) 1 6 false _ A6.out).mono ?_); rintro e w' ⟨rfl, ⟨nd, rfl⟩⟩))
    go_meet
    case rel => exact ⟨_, (true), (by first | rfl | (simp; done) | (simp [*]; done)), H', ⟨by first | omega | exact Nat.le_refl _⟩, ⟨bT_ BK192⟩, ⟨sABelo_7⟩⟩
  ·replace c5 := Bool.eq_false_iff.mpr c5
   subst c5
   replace H := ifF_ H; have H' := Aside0.mk H; clear H
   obtain ⟨hcz11_0, hcz11_1, hfz11_0, hfz11_1⟩ := cf2_ BK192
   go_wp2_with (first | ((with_reducible refine gate_callee (f := 52) rfl ?_); refine gL_ (some 10) Try.func52 #[.int .i64 (l0_0.length : Int), .int .i64 1, .int .i64 60] ?_; (with_reducible refine (impl_in.calls (l0_0.length : Int) 1 60 false _ A4.out).mono ?_); rintro e w' ⟨rfl, ⟨nd, rfl⟩⟩; refine ⟨_, rfl, ?_⟩))
   go_meet
   case rel => exact ⟨_, (true), (by first | rfl | (simp; done) | (simp [*]; done)), H', ⟨by first | omega | exact Nat.le_refl _⟩, ⟨bT_ BK192⟩, ⟨sABelo_7⟩⟩
 case rest =>
  clear HC2
  obtain ⟨kq, x27_1, rfl, HA, HJ1, BK192, HB⟩ := hcut
  cases kq with
  | zero => exact absurd HA.out (by simp [impl_SuiteOk.j0])
  | succ kj1 =>
   have H := HA.out; clear HA
   simp only [impl_SuiteOk.j0] at H
   by_cases c12 : x27_1 = true
   ·subst c12
    replace H := ifT_ H
    obtain rfl := Option.some.inj H
    go_wp2
    go_ret
    exact ⟨by first | rfl | (simp [errW_none, errW_some] <;> rfl) | (simp [*, errW_none, errW_some] <;> rfl), sABelo_7⟩
   ·replace c12 := Bool.eq_false_iff.mpr c12
    subst c12
    replace H := ifF_ H; have H' := Aside0.mk H; clear H
    obtain ⟨hcz13_0, hcz13_1, hfz13_0, hfz13_1⟩ := cf2_ BK192
    go_wp2
    go_loopg [31] kj1 (fun kq v31 w' => ∃ (x31_2 : Int), v31 = .int .i64 x31_2 ∧ Aside0 (impl_SuiteOk.l0 kq l0_0 (l0_0.length : Int) x31_2 l0_0 l0_1 = some r) ∧ Aside0 (kq ≤ kj1) ∧ Aside0 (w'.heap[gb192]? = some (.cells #[(.slice A0_0 l0_0.length c0_0), (.slice A0_1 l0_1.length c0_1)] 27 (0, 0))) ∧ Aside0 (Below w.heap.size w w'))
    case atStart => exact ⟨(0), (by first | rfl | (simp; done) | (simp [*]; done)), H', ⟨Nat.le_refl _⟩, ⟨bT_ BK192⟩, ⟨sABelo_7⟩⟩
    case round =>
     clear H'; (try clear c12); (try clear hcz13_0); (try clear hcz13_1); (try clear hfz13_0); (try clear hfz13_1)
     obtain ⟨x31_2, rfl, HA, HK2, BK192, HB⟩ := hrel
     cases gk with
     | zero => exact absurd HA.out (by simp [impl_SuiteOk.l0])
     | succ k2 =>
      have H := HA.out; clear HA
      simp only [impl_SuiteOk.l0] at H
      by_cases c14 : x31_2 < (l0_0.length : Int)
      ·rw [if_pos c14] at H
       have c14b0 : decide (x31_2 < (l0_0.length : Int)) = true := decide_eq_true c14
       clear c14
       obtain ⟨c15, H⟩ := ifS_ H
       have c15b0 : decide (0 ≤ x31_2) = true := decide_eq_true c15
       clear c15
       obtain ⟨c16, H⟩ := ifS_ H
       have c16b0 : decide (x31_2 < (l0_0.length : Int)) = true := decide_eq_true c16
       clear c16; have H' := Aside0.mk H; clear H
       have p196 : 0 ≤ (x31_2 : Int) := of_decide_eq_true (by first | (with_reducible assumption) | assumption)
       have q196 : x31_2 < (l0_0.length : Int) := of_decide_eq_true (by first | (with_reducible assumption) | assumption)
       obtain ⟨ad196, A196_0, c196_0, e196, hx196_0, hx196_1, hx196_2, hx196_3, hl196_0, hi196_0⟩ := at_T39 HR0_0.out x31_2 p196 q196
       cases e196
       replace hx196_0 := (HB.out.cell (World.block_lt_of_cell? w _ hx196_0)).trans hx196_0
       replace hx196_1 := (HB.out.cell (World.block_lt_of_cell? w _ hx196_1)).trans hx196_1
       replace hx196_2 := (HB.out.cell (World.block_lt_of_cell? w _ hx196_2)).trans hx196_2
       replace hx196_3 := (HB.out.cell (World.block_lt_of_cell? w _ hx196_3)).trans hx196_3
       have HR196_0 := Aside0.mk hi196_0; have HC196_0 := Aside0.mk hl196_0; clear hi196_0 hl196_0; replace p196 := eq_true p196; replace q196 := eq_true q196
       go_wp2_with (first | ((with_reducible refine gate_dst (N := 4) rfl ?_); (try (refine gate_guard (by rfl) ?_; dsimp only)); refine box_event ?hg (N := 4) ?hd (cs := #[.slice none 0 0, .int .i64 0, .int .i64 0, .int .i64 0]) (t := 39) ?hr ?_; (case hd => rfl); (case hg => rfl); (case hr => first | (go_simp; done) | (go_simp; rfl)); intro gb197 hg w17 hbox hb; have BK197 := Aside0.mk (hbox); have GW197 := gE_ HB hg; have GE197 := gE_ HB hg; replace HB := bS_ HB hb; have NB192_197 := nL_ BK192 hg; have NB197_192 := nG_ BK192 hg; replace BK192 := bB_ BK192 hb; clear hb hbox hg; have hnb18 := NB197_192.out; have hnc18 := NB192_197.out; obtain ⟨hcz19_0, hcz19_1, hcz19_2, hcz19_3, hfz19_0, hfz19_1, hfz19_2, hfz19_3⟩ := cf4_ BK197))
       go_loopg [39] k2 (fun kq v39 w' => ∃ (x39_3 : Int), v39 = .int .i64 x39_3 ∧ Aside0 (impl_SuiteOk.l1 kq x31_2 l0_0 (l0_0.length : Int) x31_2 ((rd_T39 l0_0 x31_2).f0) (((rd_T39 l0_0 x31_2).f0).length : Int) x39_3 l0_0 l0_1 ((rd_T39 l0_0 x31_2).f0) ((rd_T39 l0_0 x31_2).f1) ((rd_T39 l0_0 x31_2).f2) ((rd_T39 l0_0 x31_2).f3) = some r) ∧ Aside0 (kq ≤ k2) ∧ Aside0 (w'.heap[gb192]? = some (.cells #[(.slice (some ad196) l0_0.length c0_0), (.slice A0_1 l0_1.length c0_1)] 27 (0, 0))) ∧ Aside0 (w'.heap[gb197]? = some (.cells #[(.slice A196_0 ((rd_T39 l0_0 x31_2).f0).length c196_0), .int .i64 ((rd_T39 l0_0 x31_2).f1), .int .i64 ((rd_T39 l0_0 x31_2).f2), .int .i64 ((rd_T39 l0_0 x31_2).f3)] 39 (0, 0))) ∧ Aside0 (Below w.heap.size w w'))
       case atStart => exact ⟨(0), (by first | rfl | (simp; done) | (simp [*]; done)), H', ⟨Nat.le_refl _⟩, ⟨bF_ BK192 NB192_197⟩, ⟨bP_ BK197⟩, ⟨sABelo_7⟩⟩
       case round =>
        clear H'; (try clear c12); (try clear c14); (try clear c14b0); (try clear c15); (try clear c15b0); (try clear c16); (try clear c16b0); (try clear hcz13_0); (try clear hcz13_1); (try clear hcz19_0); (try clear hcz19_1); (try clear hcz19_2); (try clear hcz19_3); (try clear hfz13_0); (try clear hfz13_1); (try clear hfz19_0); (try clear hfz19_1); (try clear hfz19_2); (try clear hfz19_3); (try clear hx196_0); (try clear hx196_1); (try clear hx196_2); (try clear hx196_3); (try clear p196); (try clear q196)
        obtain ⟨x39_3, rfl, HA, HK3, BK192, BK197, HB⟩ := hrel
        cases gk with
        | zero => exact absurd HA.out (by simp [impl_SuiteOk.l1])
        | succ k3 =>
         have H := HA.out; clear HA
         simp only [impl_SuiteOk.l1] at H
         by_cases c20 : x39_3 < (((rd_T39 l0_0 x31_2).f0).length : Int)
         ·rw [if_pos c20] at H
          have c20b0 : decide (x39_3 < (((rd_T39 l0_0 x31_2).f0).length : Int)) = true := decide_eq_true c20
          clear c20
          obtain ⟨c21, H⟩ := ifS_ H
          have c21b0 : decide (0 ≤ x39_3) = true := decide_eq_true c21
          clear c21
          obtain ⟨c22, H⟩ := ifS_ H
          have c22b0 : decide (x39_3 < (((rd_T39 l0_0 x31_2).f0).length : Int)) = true := decide_eq_true c22
          clear c22; replace H := Option.bind_eq_some_iff.mp H
          obtain ⟨t199, A230, H⟩ := H
          replace H : (if t199 = true then (if x39_3 > 0 then (if 0 ≤ (wrap64 (x39_3 - 1)) then (if (wrap64 (x39_3 - 1)) < (((rd_T39 l0_0 x31_2).f0).length : Int) then (if (rd ((rd_T39 l0_0 x31_2).f0) (wrap64 (x39_3 - 1))) ≥ (rd ((rd_T39 l0_0 x31_2).f0) x39_3) then (some false) else (impl_SuiteOk.l1 k3 x31_2 l0_0 (l0_0.length : Int) x31_2 ((rd_T39 l0_0 x31_2).f0) (((rd_T39 l0_0 x31_2).f0).length : Int) (wrap64 (x39_3 + 1)) l0_0 l0_1 ((rd_T39 l0_0 x31_2).f0) ((rd_T39 l0_0 x31_2).f1) ((rd_T39 l0_0 x31_2).f2) ((rd_T39 l0_0 x31_2).f3))) else (none)) else (none)) else (impl_SuiteOk.l1 k3 x31_2 l0_0 (l0_0.length : Int) x31_2 ((rd_T39 l0_0 x31_2).f0) (((rd_T39 l0_0 x31_2).f0).length : Int) (wrap64 (x39_3 + 1)) l0_0 l0_1 ((rd_T39 l0_0 x31_2).f0) ((rd_T39 l0_0 x31_2).f1) ((rd_T39 l0_0 x31_2).f2) ((rd_T39 l0_0 x31_2).f3))) else (some false)) = some r := H
          have A23 := Aside0.mk A230; clear A230
          by_cases c24 : t199 = true
          ·subst c24
           replace H := ifT_ H
           by_cases c25 : x39_3 > 0
           ·rw [if_pos c25] at H
            have c25b0 : decide (0 < x39_3) = true := decide_eq_true c25
            clear c25
            obtain ⟨ji26, hji26⟩ : ∃ j_ : Int, (wrap64 (x39_3 - 1)) = j_ := ⟨_, rfl⟩
            replace H : (if 0 ≤ (ji26) then (if (ji26) < (((rd_T39 l0_0 x31_2).f0).length : Int) then (if (rd ((rd_T39 l0_0 x31_2).f0) (ji26)) ≥ (rd ((rd_T39 l0_0 x31_2).f0) x39_3) then (some false) else (impl_SuiteOk.l1 k3 x31_2 l0_0 (l0_0.length : Int) x31_2 ((rd_T39 l0_0 x31_2).f0) (((rd_T39 l0_0 x31_2).f0).length : Int) (wrap64 (x39_3 + 1)) l0_0 l0_1 ((rd_T39 l0_0 x31_2).f0) ((rd_T39 l0_0 x31_2).f1) ((rd_T39 l0_0 x31_2).f2) ((rd_T39 l0_0 x31_2).f3))) else (none)) else (none)) = some r := by first | (rw [hji26] at H; exact H) | (simp only [hji26] at H ⊢; exact H)
            (try rw [hji26] at A23)
            have hji26w : (IntKind.i64.wrap (x39_3 - 1)) = ji26 := (i64_w _).trans hji26
            obtain ⟨c27, H⟩ := ifS_ H
            have c27b0 : decide (0 ≤ (ji26)) = true := decide_eq_true c27
            clear c27
            obtain ⟨c28, H⟩ := ifS_ H
            have c28b0 : decide ((ji26) < (((rd_T39 l0_0 x31_2).f0).length : Int)) = true := decide_eq_true c28
            clear c28
            by_cases c29 : (rd ((rd_T39 l0_0 x31_2).f0) (ji26)) ≥ (rd ((rd_T39 l0_0 x31_2).f0) x39_3)
            ·rw [if_pos c29] at H
             have c29b0 : decide ((rd ((rd_T39 l0_0 x31_2).f0) x39_3) ≤ (rd ((rd_T39 l0_0 x31_2).f0) (ji26))) = true := decide_eq_true c29
             clear c29
             obtain rfl := Option.some.inj H
             have p198 : 0 ≤ (x39_3 : Int) := of_decide_eq_true (by first | (with_reducible assumption) | assumption)
             have q198 : x39_3 < (((rd_T39 l0_0 x31_2).f0).length : Int) := of_decide_eq_true (by first | (with_reducible assumption) | assumption)
             obtain ⟨ad198, e198, hx198_0⟩ := Kd.at_int HR196_0.out x39_3 p198 q198
             cases e198
             replace hx198_0 := (HB.out.cell (World.block_lt_of_cell? w _ hx198_0)).trans hx198_0
             replace p198 := eq_true p198; replace q198 := eq_true q198
             go_wp2_with (first | ((with_reducible refine gate_callee (f := 52) rfl ?_); refine gL_ (some 46) Try.func52 #[.int .i64 (rd ((rd_T39 l0_0 x31_2).f0) x39_3), .int .i64 1, .int .i64 x31_2] ?_; (with_reducible refine (impl_in.calls (rd ((rd_T39 l0_0 x31_2).f0) x39_3) 1 x31_2 true _ A23.out).mono ?_); rintro e w' ⟨rfl, ⟨nd, rfl⟩⟩; refine ⟨_, rfl, ?_⟩; have hnb30 := NB197_192.out; have hnc30 := NB192_197.out; obtain ⟨hcz31_0, hcz31_1, hcz31_2, hcz31_3, hfz31_0, hfz31_1, hfz31_2, hfz31_3⟩ := cf4_ BK197; have p200 : 0 ≤ ((ji26) : Int) := of_decide_eq_true (by first | (with_reducible assumption) | assumption); have q200 : (ji26) < (((rd_T39 l0_0 x31_2).f0).length : Int) := of_decide_eq_true (by first | (with_reducible assumption) | assumption); obtain ⟨ad200, e200, hx200_0⟩ := Kd.at_int HR196_0.out (ji26) p200 q200; obtain rfl : ad198 = ad200 := (by injection e200); replace hx200_0 := (HB.out.cell (World.block_lt_of_cell? w _ hx200_0)).trans hx200_0; replace p200 := eq_true p200; replace q200 := eq_true q200))
             go_ret
             exact ⟨by first | rfl | (simp [errW_none, errW_some] <;> rfl) | (simp only [← hji26]; first | rfl | (simp [errW_none, errW_some] <;> rfl)) | (simp [*, errW_none, errW_some] <;> rfl), sABelo_7⟩
            ·rw [if_neg c29] at H
             have c29b0 : decide ((rd ((rd_T39 l0_0 x31_2).f0) x39_3) ≤ (rd ((rd_T39 l0_0 x31_2).f0) (ji26))) = false := decide_eq_false c29
             clear c29; have H' := Aside0.mk H; clear H
             have p198 : 0 ≤ (x39_3 : Int) := of_decide_eq_true (by first | (with_reducible assumption) | assumption)
             have q198 : x39_3 < (((rd_T39 l0_0 x31_2).f0).length : Int) := of_decide_eq_true (by first | (with_reducible assumption) | assumption)
             obtain ⟨ad198, e198, hx198_0⟩ := Kd.at_int HR196_0.out x39_3 p198 q198
             cases e198
             replace hx198_0 := (HB.out.cell (World.block_lt_of_cell? w _ hx198_0)).trans hx198_0
             replace p198 := eq_true p198; replace q198 := eq_true q198
             go_wp2_with (first | ((with_reducible refine gate_callee (f := 52) rfl ?_); refine gL_ (some 46) Try.func52 #[.int .i64 (rd ((rd_T39 l0_0 x31_2).f0) x39_3), .int .i64 1, .int .i64 x31_2] ?_; (with_reducible refine (impl_in.calls (rd ((rd_T39 l0_0 x31_2).f0) x39_3) 1 x31_2 true _ A23.out).mono ?_); rintro e w' ⟨rfl, ⟨nd, rfl⟩⟩; refine ⟨_, rfl, ?_⟩; have hnb32 := NB197_192.out; have hnc32 := NB192_197.out; obtain ⟨hcz33_0, hcz33_1, hcz33_2, hcz33_3, hfz33_0, hfz33_1, hfz33_2, hfz33_3⟩ := cf4_ BK197; have p200 : 0 ≤ ((ji26) : Int) := of_decide_eq_true (by first | (with_reducible assumption) | assumption); have q200 : (ji26) < (((rd_T39 l0_0 x31_2).f0).length : Int) := of_decide_eq_true (by first | (with_reducible assumption) | assumption); obtain ⟨ad200, e200, hx200_0⟩ := Kd.at_int HR196_0.out (ji26) p200 q200; obtain rfl : ad198 = ad200 := (by injection e200); replace hx200_0 := (HB.out.cell (World.block_lt_of_cell? w _ hx200_0)).trans hx200_0; replace p200 := eq_true p200; replace q200 := eq_true q200))
             go_roundg k3
             case measure => have := HJ1.out; have := HK2.out; have := HK3.out; omega
             case rel => exact ⟨(wrap64 (x39_3 + 1)), (by first | rfl | (simp; done) | (simp [*]; done)), H', ⟨by have := HJ1.out; have := HK2.out; have := HK3.out; omega⟩, ⟨bT_ BK192⟩, ⟨bT_ BK197⟩, ⟨sABelo_7⟩⟩
           ·rw [if_neg c25] at H
            have c25b0 : decide (0 < x39_3) = false := decide_eq_false c25
            clear c25; have H' := Aside0.mk H; clear H
            have p198 : 0 ≤ (x39_3 : Int) := of_decide_eq_true (by first | (with_reducible assumption) | assumption)
            have q198 : x39_3 < (((rd_T39 l0_0 x31_2).f0).length : Int) := of_decide_eq_true (by first | (with_reducible assumption) | assumption)
            obtain ⟨ad198, e198, hx198_0⟩ := Kd.at_int HR196_0.out x39_3 p198 q198
            cases e198
            replace hx198_0 := (HB.out.cell (World.block_lt_of_cell? w _ hx198_0)).trans hx198_0
            replace p198 := eq_true p198; replace q198 := eq_true q198
            go_wp2_with (first | ((with_reducible refine gate_callee (f := 52) rfl ?_); refine gL_ (some 46) Try.func52 #[.int .i64 (rd ((rd_T39 l0_0 x31_2).f0) x39_3), .int .i64 1, .int .i64 x31_2] ?_; (with_reducible refine (impl_in.calls (rd ((rd_T39 l0_0 x31_2).f0) x39_3) 1 x31_2 true _ A23.out).mono ?_); rintro e w' ⟨rfl, ⟨nd, rfl⟩⟩; refine ⟨_, rfl, ?_⟩))
            go_roundg k3
            case measure => have := HJ1.out; have := HK2.out; have := HK3.out; omega
            case rel => exact ⟨(wrap64 (x39_3 + 1)), (by first | rfl | (simp; done) | (simp [*]; done)), H', ⟨by have := HJ1.out; have := HK2.out; have := HK3.out; omega⟩, ⟨bT_ BK192⟩, ⟨bT_ BK197⟩, ⟨sABelo_7⟩⟩
          ·replace c24 := Bool.eq_false_iff.mpr c24
           subst c24
           replace H := ifF_ H
           obtain rfl := Option.some.inj H
           have p198 : 0 ≤ (x39_3 : Int) := of_decide_eq_true (by first | (with_reducible assumption) | assumption)
           have q198 : x39_3 < (((rd_T39 l0_0 x31_2).f0).length : Int) := of_decide_eq_true (by first | (with_reducible assumption) | assumption)
           obtain ⟨ad198, e198, hx198_0⟩ := Kd.at_int HR196_0.out x39_3 p198 q198
           cases e198
           replace hx198_0 := (HB.out.cell (World.block_lt_of_cell? w _ hx198_0)).trans hx198_0
           replace p198 := eq_true p198; replace q198 := eq_true q198
           go_wp2_with (first | ((with_reducible refine gate_callee (f := 52) rfl ?_); refine gL_ (some 46) Try.func52 #[.int .i64 (rd ((rd_T39 l0_0 x31_2).f0) x39_3), .int .i64 1, .int .i64 x31_2] ?_; (with_reducible refine (impl_in.calls (rd ((rd_T39 l0_0 x31_2).f0) x39_3) 1 x31_2 false _ A23.out).mono ?_); rintro e w' ⟨rfl, ⟨nd, rfl⟩⟩; refine ⟨_, rfl, ?_⟩))
           go_ret
           exact ⟨by first | rfl | (simp [errW_none, errW_some] <;> rfl) | (simp [*, errW_none, errW_some] <;> rfl), sABelo_7⟩
         ·rw [if_neg c20] at H
          have c20b0 : decide (x39_3 < (((rd_T39 l0_0 x31_2).f0).length : Int)) = false := decide_eq_false c20
          clear c20; replace H := Option.bind_eq_some_iff.mp H
          obtain ⟨t201, A340, H⟩ := H
          replace H : (if t201 = true then ((impl_in.f ((rd_T39 l0_0 x31_2).f2) 0 1000000000000).bind fun t202 => (if t202 = true then ((impl_in.f ((rd_T39 l0_0 x31_2).f3) 1 5).bind fun t203 => (if t203 = true then (impl_SuiteOk.l0 k3 l0_0 (l0_0.length : Int) (wrap64 (x31_2 + 1)) l0_0 l0_1) else (some false))) else (some false))) else (some false)) = some r := H
          have A34 := Aside0.mk A340; clear A340
          by_cases c35 : t201 = true
          ·subst c35
           replace H := ifT_ H; replace H := Option.bind_eq_some_iff.mp H
           obtain ⟨t202, A360, H⟩ := H
           replace H : (if t202 = true then ((impl_in.f ((rd_T39 l0_0 x31_2).f3) 1 5).bind fun t203 => (if t203 = true then (impl_SuiteOk.l0 k3 l0_0 (l0_0.length : Int) (wrap64 (x31_2 + 1)) l0_0 l0_1) else (some false))) else (some false)) = some r := H
           have A36 := Aside0.mk A360; clear A360
           by_cases c37 : t202 = true
           ·subst c37
            replace H := ifT_ H; replace H := Option.bind_eq_some_iff.mp H
            obtain ⟨t203, A380, H⟩ := H
            replace H : (if t203 = true then (impl_SuiteOk.l0 k3 l0_0 (l0_0.length : Int) (wrap64 (x31_2 + 1)) l0_0 l0_1) else (some false)) = some r := H
            have A38 := Aside0.mk A380; clear A380
            by_cases c39 : t203 = true
            ·subst c39
             replace H := ifT_ H; have H' := Aside0.mk H; clear H; have hnb40 := NB197_192.out; have hnc40 := NB192_197.out
             obtain ⟨hcz41_0, hcz41_1, hcz41_2, hcz41_3, hfz41_0, hfz41_1, hfz41_2, hfz41_3⟩ := cf4_ BK197
             obtain ⟨hcz42_0, hcz42_1, hfz42_0, hfz42_1⟩ := cf2_ BK192
             go_wp2_with (first | ((with_reducible refine gate_callee (f := 52) rfl ?_); refine gL_ (some 68) Try.func52 #[.int .i64 ((rd_T39 l0_0 x31_2).f1), .int .i64 1, .int .i64 (l0_1.length : Int)] ?_; (with_reducible refine (impl_in.calls ((rd_T39 l0_0 x31_2).f1) 1 (l0_1.length : Int) true _ A34.out).mono ?_); rintro e w' ⟨rfl, ⟨nd, rfl⟩⟩; refine ⟨_, rfl, ?_⟩) | (go_at_call 52; (with_reducible refine (impl_in.calls ((rd_T39 l0_0 x31_2).f2) 0 1000000000000 true _ A36.out).mono ?_); rintro e w' ⟨rfl, ⟨nd, rfl⟩⟩) | (go_at_call 52; (with_reducible refine (impl_in.calls ((rd_T39 l0_0 x31_2).f3) 1 5 true _ A38.out).mono ?_); rintro e w' ⟨rfl, ⟨nd, rfl⟩⟩))
             go_roundg k3
             case measure => have := HJ1.out; have := HK2.out; have := HK3.out; omega
             case rel => exact ⟨(wrap64 (x31_2 + 1)), (by first | rfl | (simp; done) | (simp [*]; done)), H', ⟨by have := HJ1.out; have := HK2.out; have := HK3.out; omega⟩, ⟨bT_ BK192⟩, ⟨sABelo_7⟩⟩
            ·replace c39 := Bool.eq_false_iff.mpr c39
             subst c39
             replace H := ifF_ H
             obtain rfl := Option.some.inj H
             have hnb43 := NB197_192.out; have hnc43 := NB192_197.out
             obtain ⟨hcz44_0, hcz44_1, hcz44_2, hcz44_3, hfz44_0, hfz44_1, hfz44_2, hfz44_3⟩ := cf4_ BK197
             obtain ⟨hcz45_0, hcz45_1, hfz45_0, hfz45_1⟩ := cf2_ BK192
             go_wp2_with (first | ((with_reducible refine gate_callee (f := 52) rfl ?_); refine gL_ (some 68) Try.func52 #[.int .i64 ((rd_T39 l0_0 x31_2).f1), .int .i64 1, .int .i64 (l0_1.length : Int)] ?_; (with_reducible refine (impl_in.calls ((rd_T39 l0_0 x31_2).f1) 1 (l0_1.length : Int) true _ A34.out).mono ?_); rintro e w' ⟨rfl, ⟨nd, rfl⟩⟩; refine ⟨_, rfl, ?_⟩) | (go_at_call 52; (with_reducible refine (impl_in.calls ((rd_T39 l0_0 x31_2).f2) 0 1000000000000 true _ A36.out).mono ?_); rintro e w' ⟨rfl, ⟨nd, rfl⟩⟩) | (go_at_call 52; (with_reducible refine (impl_in.calls ((rd_T39 l0_0 x31_2).f3) 1 5 false _ A38.out).mono ?_); rintro e w' ⟨rfl, ⟨nd, rfl⟩⟩))
             go_ret
             exact ⟨by first | rfl | (simp [errW_none, errW_some] <;> rfl) | (simp [*, errW_none, errW_some] <;> rfl), sABelo_7⟩
           ·replace c37 := Bool.eq_false_iff.mpr c37
            subst c37
            replace H := ifF_ H
            obtain rfl := Option.some.inj H
            have hnb46 := NB197_192.out; have hnc46 := NB192_197.out
            obtain ⟨hcz47_0, hcz47_1, hcz47_2, hcz47_3, hfz47_0, hfz47_1, hfz47_2, hfz47_3⟩ := cf4_ BK197
            obtain ⟨hcz48_0, hcz48_1, hfz48_0, hfz48_1⟩ := cf2_ BK192
            go_wp2_with (first | ((with_reducible refine gate_callee (f := 52) rfl ?_); refine gL_ (some 68) Try.func52 #[.int .i64 ((rd_T39 l0_0 x31_2).f1), .int .i64 1, .int .i64 (l0_1.length : Int)] ?_; (with_reducible refine (impl_in.calls ((rd_T39 l0_0 x31_2).f1) 1 (l0_1.length : Int) true _ A34.out).mono ?_); rintro e w' ⟨rfl, ⟨nd, rfl⟩⟩; refine ⟨_, rfl, ?_⟩) | (go_at_call 52; (with_reducible refine (impl_in.calls ((rd_T39 l0_0 x31_2).f2) 0 1000000000000 false _ A36.out).mono ?_); rintro e w' ⟨rfl, ⟨nd, rfl⟩⟩))
            go_ret
            exact ⟨by first | rfl | (simp [errW_none, errW_some] <;> rfl) | (simp [*, errW_none, errW_some] <;> rfl), sABelo_7⟩
          ·replace c35 := Bool.eq_false_iff.mpr c35
           subst c35
           replace H := ifF_ H
           obtain rfl := Option.some.inj H
           have hnb49 := NB197_192.out; have hnc49 := NB192_197.out
           obtain ⟨hcz50_0, hcz50_1, hcz50_2, hcz50_3, hfz50_0, hfz50_1, hfz50_2, hfz50_3⟩ := cf4_ BK197
           obtain ⟨hcz51_0, hcz51_1, hfz51_0, hfz51_1⟩ := cf2_ BK192
           go_wp2_with (first | ((with_reducible refine gate_callee (f := 52) rfl ?_); refine gL_ (some 68) Try.func52 #[.int .i64 ((rd_T39 l0_0 x31_2).f1), .int .i64 1, .int .i64 (l0_1.length : Int)] ?_; (with_reducible refine (impl_in.calls ((rd_T39 l0_0 x31_2).f1) 1 (l0_1.length : Int) false _ A34.out).mono ?_); rintro e w' ⟨rfl, ⟨nd, rfl⟩⟩; refine ⟨_, rfl, ?_⟩))
           go_ret
           exact ⟨by first | rfl | (simp [errW_none, errW_some] <;> rfl) | (simp [*, errW_none, errW_some] <;> rfl), sABelo_7⟩
      ·rw [if_neg c14] at H
       have c14b0 : decide (x31_2 < (l0_0.length : Int)) = false := decide_eq_false c14
       clear c14
       obtain rfl := Option.some.inj H
       go_wp2
       go_ret
       exact ⟨by first | rfl | (simp [errW_none, errW_some] <;> rfl) | (simp [*, errW_none, errW_some] <;> rfl), sABelo_7⟩

end Go.Proofs.Ytjoghfehmhapbaa.QFnExactTickRun
