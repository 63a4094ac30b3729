-- Written by a program of this session out of the printer's texts and contracts of its own.
import Derived.Test.YtjoghfehmhapbaaSq
import Derived.Test.YtjoghfehmhapbaaQFnLateOncex0
import Derived.Test.YtjoghfehmhapbaaQFnLateOncex14
namespace Go.Proofs.Ytjoghfehmhapbaa.QFnLateOnce
open Go.RowKit Go.Proofs.YtjoghfehmhapbaaW.PrintWords Go.Proofs.YtjoghfehmhapbaaW.PrintLast Go.Proofs.YtjoghfehmhapbaaW.PrintMore Go.Proofs.Ytjoghfehmhapbaa.Sq
attribute [local go_sem] max2_int min2_int max_two min_two max_three min_three max_four min_four   -- for this text's walks alone
set_option linter.unusedVariables false
set_option linter.unusedSimpArgs false
theorem sABelo_15 {b : Nat} {w W : World} (h : Below b w W := by repeat (first | (with_reducible first | exact Aside0.out (by assumption) | apply below_alloc | apply pw_below_drewN | apply below_drew1 | refine below_set ?_ (Aside0.out (by assumption))) | exact Aside0.out (by assumption))) : Below b w W := h

/-! ### impl_SuiteOk: function 46 -/
mutual
def impl_SuiteOk.j0 : Nat → Bool → List (S39) → List Int → Option (Bool)
 | 0, _, _, _ => none
 | k + 1, x27, x470000, x470001 => if x27 = true then (some false) else (impl_SuiteOk.l0 k x470000 (x470000.length : Int) 0 x470000 x470001)
def impl_SuiteOk.l0 : Nat → List (S39) → Int → Int → List (S39) → List Int → Option (Bool)
 | 0, _, _, _, _, _ => none
 | k + 1, x29, x30, x31, x470000, x470001 => if x31 < x30 then (if 0 ≤ x31 then (if x31 < (x29.length : Int) then (impl_SuiteOk.l1 k x31 x29 x30 x31 ((rd_T39 x29 x31).f0) (((rd_T39 x29 x31).f0).length : Int) 0 x470000 x470001 ((rd_T39 x29 x31).f0) ((rd_T39 x29 x31).f1) ((rd_T39 x29 x31).f2) ((rd_T39 x29 x31).f3)) else (none)) else (none)) else (some true)
def impl_SuiteOk.l1 : Nat → Int → List (S39) → Int → Int → List Int → Int → Int → List (S39) → List Int → List Int → Int → Int → Int → Option (Bool)
 | 0, _, _, _, _, _, _, _, _, _, _, _, _, _ => none
 | k + 1, x3, x29, x30, x31, x37, x38, x39, x470000, x470001, x475000, x475001, x475002, x475003 => if x39 < x38 then (if 0 ≤ x39 then (if x39 < (x37.length : Int) then ((impl_in.f (rd x37 x39) 1 x3).bind fun t476 => (if t476 = true then (if x39 > 0 then (if 0 ≤ (wrap64 (x39 - 1)) then (if (wrap64 (x39 - 1)) < (x475000.length : Int) then (if (rd x475000 (wrap64 (x39 - 1))) ≥ (rd x37 x39) then (some false) else (impl_SuiteOk.l1 k x3 x29 x30 x31 x37 x38 (wrap64 (x39 + 1)) x470000 x470001 x475000 x475001 x475002 x475003)) else (none)) else (none)) else (impl_SuiteOk.l1 k x3 x29 x30 x31 x37 x38 (wrap64 (x39 + 1)) x470000 x470001 x475000 x475001 x475002 x475003)) else (some false))) else (none)) else (none)) else ((impl_in.f x475001 1 (x470001.length : Int)).bind fun t478 => (if t478 = true then ((impl_in.f x475002 0 1000000000000).bind fun t479 => (if t479 = true then ((impl_in.f x475003 1 5).bind fun t480 => (if t480 = true then (impl_SuiteOk.l0 k x29 x30 (wrap64 (x31 + 1)) x470000 x470001) else (some false))) else (some false))) else (some false)))
end
def impl_SuiteOk.f (k : Nat) (l0_0 : List (S39)) (l0_1 : List Int) : Option (Bool) := (impl_in.f (l0_0.length : Int) 1 60).bind fun t470 => (if t470 = true then ((impl_in.f (l0_1.length : Int) 1 6).bind fun t471 => (if t471 = true then ((impl_each.f k l0_1 (l0_1.length : Int) 1 60).bind fun t472 => (impl_SuiteOk.j0 k (!t472) l0_0 l0_1)) else (impl_SuiteOk.j0 k true l0_0 l0_1))) else (impl_SuiteOk.j0 k true l0_0 l0_1))
theorem impl_SuiteOk.mono_l : ∀ k, (∀ y0 y1 y2, LeO (impl_SuiteOk.j0 k y0 y1 y2) (impl_SuiteOk.j0 (k + 1) y0 y1 y2)) ∧ (∀ y0 y1 y2 y3 y4, LeO (impl_SuiteOk.l0 k y0 y1 y2 y3 y4) (impl_SuiteOk.l0 (k + 1) y0 y1 y2 y3 y4)) ∧ (∀ y0 y1 y2 y3 y4 y5 y6 y7 y8 y9 y10 y11 y12, LeO (impl_SuiteOk.l1 k y0 y1 y2 y3 y4 y5 y6 y7 y8 y9 y10 y11 y12) (impl_SuiteOk.l1 (k + 1) y0 y1 y2 y3 y4 y5 y6 y7 y8 y9 y10 y11 y12))
 | 0 => ⟨fun _ _ _ r h => by simp [impl_SuiteOk.j0] at h, fun _ _ _ _ _ r h => by simp [impl_SuiteOk.l0] at h, fun _ _ _ _ _ _ _ _ _ _ _ _ _ r h => by simp [impl_SuiteOk.l1] at h⟩
 | k + 1 => by
  obtain ⟨ih0, ih1, ih2⟩ := impl_SuiteOk.mono_l k
  refine ⟨?_, ?_, ?_⟩
  intro y0 y1 y2; unfold impl_SuiteOk.j0; rotate_left
  intro y0 y1 y2 y3 y4; unfold impl_SuiteOk.l0; rotate_left
  intro y0 y1 y2 y3 y4 y5 y6 y7 y8 y9 y10 y11 y12; unfold impl_SuiteOk.l1; rotate_left
  all_goals repeat' first
  | (with_reducible exact ih0 _ _ _)
  | (with_reducible exact ih1 _ _ _ _ _)
  | (with_reducible exact ih2 _ _ _ _ _ _ _ _ _ _ _ _ _)
  | (with_reducible exact impl_each.mono _ _ _ _ _)
  | (with_reducible exact LeO.refl _)
  | (with_reducible exact LeO.none _)
  | (with_reducible refine LeO.ite ?_ ?_)
  | (with_reducible refine LeO.bind ?_ (fun _ => ?_))
  | exact ih0 _ _ _
  | exact ih1 _ _ _ _ _
  | exact ih2 _ _ _ _ _ _ _ _ _ _ _ _ _
  | exact impl_each.mono _ _ _ _ _
  | exact LeO.none _
  | refine LeO.ite ?_ ?_
  | refine LeO.bind ?_ (fun _ => ?_)
theorem impl_SuiteOk.mono : ∀ a0 a1 k, LeO (impl_SuiteOk.f k a0 a1) (impl_SuiteOk.f (k + 1) a0 a1) := by
 intro a0 a1 k
 obtain ⟨ih0, ih1, ih2⟩ := impl_SuiteOk.mono_l k
 unfold impl_SuiteOk.f
 repeat' first
   | (with_reducible exact ih0 _ _ _)
   | (with_reducible exact ih1 _ _ _ _ _)
   | (with_reducible exact ih2 _ _ _ _ _ _ _ _ _ _ _ _ _)
   | (with_reducible exact impl_each.mono _ _ _ _ _)
   | (with_reducible exact LeO.refl _)
   | (with_reducible exact LeO.none _)
   | (with_reducible refine LeO.ite ?_ ?_)
   | (with_reducible refine LeO.bind ?_ (fun _ => ?_))
   | exact ih0 _ _ _
   | exact ih1 _ _ _ _ _
   | exact ih2 _ _ _ _ _ _ _ _ _ _ _ _ _
   | exact LeO.none _
   | refine LeO.ite ?_ ?_
   | refine LeO.bind ?_ (fun _ => ?_)
set_option maxHeartbeats 8000000 in
set_option maxRecDepth 100000 in
theorem impl_SuiteOk.calls (k : Nat) (A0_0 : Option Addr) (c0_0 : Nat) (l0_0 : List (S39)) (A0_1 : Option Addr) (c0_1 : Nat) (l0_1 : List Int) (r : Bool) (w : World) (hr0_0 : Kd.C k39 w A0_0 l0_0.length l0_0) (hc0_0 : l0_0.length ≤ c0_0) (hr0_1 : Kd.C (Kd.int .i64) w A0_1 l0_1.length l0_1) (hc0_1 : l0_1.length ≤ c0_1) (h : impl_SuiteOk.f k l0_0 l0_1 = some r) :
  Calls Try.prog 46 #[.agg #[.slice A0_0 l0_0.length c0_0, .slice A0_1 l0_1.length c0_1]] w fun e w' => e = .returned (.bool r) ∧ Below w.heap.size w w' := by
 have hu27 := Try.underlying27; have hu39 := Try.underlying39; have HR0_0 := mk_ hr0_0; have HC0_0 := mk_ hc0_0; clear hr0_0 hc0_0; have HR0_1 := mk_ hr0_1; have HC0_1 := mk_ hc0_1; clear hr0_1 hc0_1
 have HB := mk_ (Below.refl w.heap.size w)
 have H : ((impl_in.f (l0_0.length : Int) 1 60).bind fun t470 => (if t470 = true then ((impl_in.f (l0_1.length : Int) 1 6).bind fun t471 => (if t471 = true then ((impl_each.f k l0_1 (l0_1.length : Int) 1 60).bind fun t472 => (impl_SuiteOk.j0 k (!t472) l0_0 l0_1)) else (impl_SuiteOk.j0 k true l0_0 l0_1))) else (impl_SuiteOk.j0 k true l0_0 l0_1))) = some r := h
 clear h; have HC2 := mk_ H; clear H
 go_enter Try.func46, Try.ntmps46
 go_upto_region 1 with (first | ((with_reducible refine gate_dst (N := 1) rfl ?_); (try (refine gate_guard (by rfl) ?_; dsimp only)); refine box_event ?hg (N := 1) ?hd (cs := #[.slice A0_0 l0_0.length c0_0, .slice A0_1 l0_1.length c0_1]) (t := 27) ?hr ?_; (case hd => rfl); (case hg => rfl); (case hr => first | (go_simp; done) | (go_simp; rfl)); intro gb469 hg w3 hbox hb; have BK469 := mk_ (hbox); have GW469 := gE_ HB hg; have GE469 := gE_ HB hg; replace HB := bS_ HB hb; clear hb hbox hg))
 (try simp only [Act.put, List.setIfInBounds_toArray, List.set_cons_zero, List.set_cons_succ])
 go_cut [27] (fun v27 wc => ∃ (kq : Nat) (x27_1 : Bool), v27 = .bool x27_1 ∧ Aside0 (impl_SuiteOk.j0 kq x27_1 l0_0 l0_1 = some r) ∧ Aside0 (kq ≤ k) ∧ Aside0 (wc.heap[gb469]? = some (.cells #[(.slice A0_0 l0_0.length c0_0), (.slice A0_1 l0_1.length c0_1)] 27 (0, 0))) ∧ Aside0 (Below w.heap.size w wc))
 case first =>
  have H := HC2.out; clear HC2; replace H := Option.bind_eq_some_iff.mp H
  obtain ⟨t470, A40, H⟩ := H
  (try dsimp only at H)
  have A4 := mk_ A40; clear A40
  by_cases c5 : t470 = true
  ·subst c5
   replace H := ifT_ H; replace H := Option.bind_eq_some_iff.mp H
   obtain ⟨t471, A60, H⟩ := H
   (try dsimp only at H)
   have A6 := mk_ A60; clear A60
   by_cases c7 : t471 = true
   ·subst c7
    replace H := ifT_ H; replace H := Option.bind_eq_some_iff.mp H
    obtain ⟨t472, A80, H⟩ := H
    (try dsimp only at H)
    have A8 := mk_ A80; clear A80; have H' := mk_ H; clear H
    obtain ⟨hcz9_0, hcz9_1, hfz9_0, hfz9_1⟩ := cf2_ BK469
    go_wp2_with (first | ((with_reducible refine gate_callee (f := 52) rfl ?_); refine gL_ (some 10) Try.func52 #[.int .i64 (l0_0.length : Int), .int .i64 1, .int .i64 60] ?_; (with_reducible refine (impl_in.calls (l0_0.length : Int) 1 60 true _ A4.out).mono ?_); rintro e w' ⟨rfl, ⟨nd, rfl⟩⟩; refine ⟨_, rfl, ?_⟩) | (go_at_call 52; (with_reducible refine (impl_in.calls (l0_1.length : Int) 1 6 true _ A6.out).mono ?_); rintro e w' ⟨rfl, ⟨nd, rfl⟩⟩) | (go_at_call 78; (with_reducible refine (impl_each.calls k _ _ l0_1 (l0_1.length : Int) 1 60 t472 _ ?side1 ?side2 A8.out).mono ?_); (case side1 => repeat (first | exact (Kd.C_below HR0_1.out sABelo_15) | (with_reducible refine Kd.C_alloc ?_ _) | (with_reducible refine Kd.C_drewN ?_ _) | (with_reducible refine Kd.C_drew ?_))); (case side2 => exact HC0_1.out); rintro e w' ⟨rfl, ⟨nd, rfl⟩⟩))
    go_meet
    case rel => exact ⟨_, (!t472), eS_, H', ⟨by first | omega | exact Nat.le_refl _⟩, ⟨bT_ BK469⟩, ⟨sABelo_15⟩⟩
   ·replace c7 := Bool.eq_false_iff.mpr c7
    subst c7
    replace H := ifF_ H; have H' := mk_ H; clear H
    obtain ⟨hcz10_0, hcz10_1, hfz10_0, hfz10_1⟩ := cf2_ BK469
    go_wp2_with (first | ((with_reducible refine gate_callee (f := 52) rfl ?_); refine gL_ (some 10) Try.func52 #[.int .i64 (l0_0.length : Int), .int .i64 1, .int .i64 60] ?_; (with_reducible refine (impl_in.calls (l0_0.length : Int) 1 60 true _ A4.out).mono ?_); rintro e w' ⟨rfl, ⟨nd, rfl⟩⟩; refine ⟨_, rfl, ?_⟩) | (go_at_call 52; (with_reducible refine (impl_in.calls (l0_1.length : Int) 1 6 false _ A6.out).mono ?_); rintro e w' ⟨rfl, ⟨nd, rfl⟩⟩))
    go_meet
    case rel => exact ⟨_, (true), eS_, H', ⟨by first | omega | exact Nat.le_refl _⟩, ⟨bT_ BK469⟩, ⟨sABelo_15⟩⟩
  ·replace c5 := Bool.eq_false_iff.mpr c5
   subst c5
   replace H := ifF_ H; have H' := mk_ H; clear H
   obtain ⟨hcz11_0, hcz11_1, hfz11_0, hfz11_1⟩ := cf2_ BK469
   go_wp2_with (first | ((with_reducible refine gate_callee (f := 52) rfl ?_); refine gL_ (some 10) Try.func52 #[.int .i64 (l0_0.length : Int), .int .i64 1, .int .i64 60] ?_; (with_reducible refine (impl_in.calls (l0_0.length : Int) 1 60 false _ A4.out).mono ?_); rintro e w' ⟨rfl, ⟨nd, rfl⟩⟩; refine ⟨_, rfl, ?_⟩))
   go_meet
   case rel => exact ⟨_, (true), eS_, H', ⟨by first | omega | exact Nat.le_refl _⟩, ⟨bT_ BK469⟩, ⟨sABelo_15⟩⟩
 case rest =>
  clear HC2
  obtain ⟨kq, x27_1, rfl, HA, HJ1, BK469, HB⟩ := hcut
  cases kq with
  | zero => exact absurd HA.out (by simp [impl_SuiteOk.j0])
  | succ kj1 =>
   have H := HA.out; clear HA
   simp only [impl_SuiteOk.j0] at H
   by_cases c12 : x27_1 = true
   ·subst c12
    replace H := ifT_ H
    obtain rfl := Option.some.inj H
    go_wp2
    go_ret
    exact ⟨eW_, sABelo_15⟩
   ·replace c12 := Bool.eq_false_iff.mpr c12
    subst c12
    replace H := ifF_ H; have H' := mk_ H; clear H
    obtain ⟨hcz13_0, hcz13_1, hfz13_0, hfz13_1⟩ := cf2_ BK469
    go_wp2
    go_loopg [31] kj1 (fun kq v31 w' => ∃ (x31_2 : Int), v31 = .int .i64 x31_2 ∧ Aside0 (impl_SuiteOk.l0 kq l0_0 (l0_0.length : Int) x31_2 l0_0 l0_1 = some r) ∧ Aside0 (kq ≤ kj1) ∧ Aside0 (w'.heap[gb469]? = some (.cells #[(.slice A0_0 l0_0.length c0_0), (.slice A0_1 l0_1.length c0_1)] 27 (0, 0))) ∧ Aside0 (Below w.heap.size w w'))
    case atStart => exact ⟨(0), eS_, H', ⟨Nat.le_refl _⟩, ⟨bT_ BK469⟩, ⟨sABelo_15⟩⟩
    case round =>
     clear H'; (try clear c12); (try clear hcz13_0); (try clear hcz13_1); (try clear hfz13_0); (try clear hfz13_1)
     obtain ⟨x31_2, rfl, HA, HK2, BK469, HB⟩ := hrel
     cases gk with
     | zero => exact absurd HA.out (by simp [impl_SuiteOk.l0])
     | succ k2 =>
      have H := HA.out; clear HA
      simp only [impl_SuiteOk.l0] at H
      by_cases c14 : x31_2 < (l0_0.length : Int)
      ·rw [if_pos c14] at H
       have c14b0 := decide_eq_true c14
       clear c14
       obtain ⟨c15, H⟩ := ifS_ H
       have c15b0 : decide (0 ≤ x31_2) = true := decide_eq_true c15
       clear c15
       obtain ⟨c16, H⟩ := ifS_ H
       have c16b0 : decide (x31_2 < (l0_0.length : Int)) = true := decide_eq_true c16
       clear c16; have H' := mk_ H; clear H
       have p473 : 0 ≤ (x31_2 : Int) := dA_
       have q473 : x31_2 < (l0_0.length : Int) := dA_
       obtain ⟨ad473, A473_0, c473_0, e473, hx473_0, hx473_1, hx473_2, hx473_3, hl473_0, hi473_0⟩ := at_T39 HR0_0.out x31_2 p473 q473
       cases e473
       replace hx473_0 := hX_ HB hx473_0
       replace hx473_1 := hX_ HB hx473_1
       replace hx473_2 := hX_ HB hx473_2
       replace hx473_3 := hX_ HB hx473_3
       have HR473_0 := mk_ hi473_0; have HC473_0 := mk_ hl473_0; clear hi473_0 hl473_0; replace p473 := eq_true p473; replace q473 := eq_true q473
       go_wp2_with (first | ((with_reducible refine gate_dst (N := 4) rfl ?_); (try (refine gate_guard (by rfl) ?_; dsimp only)); refine box_event ?hg (N := 4) ?hd (cs := #[.slice none 0 0, .int .i64 0, .int .i64 0, .int .i64 0]) (t := 39) ?hr ?_; (case hd => rfl); (case hg => rfl); (case hr => first | (go_simp; done) | (go_simp; rfl)); intro gb474 hg w17 hbox hb; have BK474 := mk_ (hbox); have GW474 := gE_ HB hg; have GE474 := gE_ HB hg; replace HB := bS_ HB hb; have NB469_474 := nL_ BK469 hg; have NB474_469 := nG_ BK469 hg; replace BK469 := bB_ BK469 hb; clear hb hbox hg; have hnb18 := NB474_469.out; have hnc18 := NB469_474.out; obtain ⟨hcz19_0, hcz19_1, hcz19_2, hcz19_3, hfz19_0, hfz19_1, hfz19_2, hfz19_3⟩ := cf4_ BK474))
       go_loopg [39] k2 (fun kq v39 w' => ∃ (x39_3 : Int), v39 = .int .i64 x39_3 ∧ Aside0 (impl_SuiteOk.l1 kq x31_2 l0_0 (l0_0.length : Int) x31_2 ((rd_T39 l0_0 x31_2).f0) (((rd_T39 l0_0 x31_2).f0).length : Int) x39_3 l0_0 l0_1 ((rd_T39 l0_0 x31_2).f0) ((rd_T39 l0_0 x31_2).f1) ((rd_T39 l0_0 x31_2).f2) ((rd_T39 l0_0 x31_2).f3) = some r) ∧ Aside0 (kq ≤ k2) ∧ Aside0 (w'.heap[gb469]? = some (.cells #[(.slice (some ad473) l0_0.length c0_0), (.slice A0_1 l0_1.length c0_1)] 27 (0, 0))) ∧ Aside0 (w'.heap[gb474]? = some (.cells #[(.slice A473_0 ((rd_T39 l0_0 x31_2).f0).length c473_0), .int .i64 ((rd_T39 l0_0 x31_2).f1), .int .i64 ((rd_T39 l0_0 x31_2).f2), .int .i64 ((rd_T39 l0_0 x31_2).f3)] 39 (0, 0))) ∧ Aside0 (Below w.heap.size w w'))
       case atStart => exact ⟨(0), eS_, H', ⟨Nat.le_refl _⟩, ⟨bF_ BK469 NB469_474⟩, ⟨bP_ BK474⟩, ⟨sABelo_15⟩⟩
       case round =>
        clear H'; (try clear c12); (try clear c14); (try clear c14b0); (try clear c15); (try clear c15b0); (try clear c16); (try clear c16b0); (try clear hcz13_0); (try clear hcz13_1); (try clear hcz19_0); (try clear hcz19_1); (try clear hcz19_2); (try clear hcz19_3); (try clear hfz13_0); (try clear hfz13_1); (try clear hfz19_0); (try clear hfz19_1); (try clear hfz19_2); (try clear hfz19_3); (try clear hx473_0); (try clear hx473_1); (try clear hx473_2); (try clear hx473_3); (try clear p473); (try clear q473)
        obtain ⟨x39_3, rfl, HA, HK3, BK469, BK474, HB⟩ := hrel
        cases gk with
        | zero => exact absurd HA.out (by simp [impl_SuiteOk.l1])
        | succ k3 =>
         have H := HA.out; clear HA
         simp only [impl_SuiteOk.l1] at H
         by_cases c20 : x39_3 < (((rd_T39 l0_0 x31_2).f0).length : Int)
         ·rw [if_pos c20] at H
          have c20b0 := decide_eq_true c20
          clear c20
          obtain ⟨c21, H⟩ := ifS_ H
          have c21b0 : decide (0 ≤ x39_3) = true := decide_eq_true c21
          clear c21
          obtain ⟨c22, H⟩ := ifS_ H
          have c22b0 : decide (x39_3 < (((rd_T39 l0_0 x31_2).f0).length : Int)) = true := decide_eq_true c22
          clear c22; replace H := Option.bind_eq_some_iff.mp H
          obtain ⟨t476, A230, H⟩ := H
          (try dsimp only at H)
          have A23 := mk_ A230; clear A230
          by_cases c24 : t476 = true
          ·subst c24
           replace H := ifT_ H
           by_cases c25 : x39_3 > 0
           ·rw [if_pos c25] at H
            have c25b0 : decide (0 < x39_3) = true := decide_eq_true c25
            clear c25
            obtain ⟨ji26, hji26⟩ : ∃ j_ : Int, (wrap64 (x39_3 - 1)) = j_ := ⟨_, rfl⟩
            replace H : (if 0 ≤ (ji26) then (if (ji26) < (((rd_T39 l0_0 x31_2).f0).length : Int) then (if (rd ((rd_T39 l0_0 x31_2).f0) (ji26)) ≥ (rd ((rd_T39 l0_0 x31_2).f0) x39_3) then (some false) else (impl_SuiteOk.l1 k3 x31_2 l0_0 (l0_0.length : Int) x31_2 ((rd_T39 l0_0 x31_2).f0) (((rd_T39 l0_0 x31_2).f0).length : Int) (wrap64 (x39_3 + 1)) l0_0 l0_1 ((rd_T39 l0_0 x31_2).f0) ((rd_T39 l0_0 x31_2).f1) ((rd_T39 l0_0 x31_2).f2) ((rd_T39 l0_0 x31_2).f3))) else (none)) else (none)) = some r := by first | (rw [hji26] at H; exact H) | (simp only [hji26] at H ⊢; exact H)
            (try rw [hji26] at A23)
            have hji26w : (IntKind.i64.wrap (x39_3 - 1)) = ji26 := (i64_w _).trans hji26
            obtain ⟨c27, H⟩ := ifS_ H
            have c27b0 : decide (0 ≤ (ji26)) = true := decide_eq_true c27
            clear c27
            obtain ⟨c28, H⟩ := ifS_ H
            have c28b0 : decide ((ji26) < (((rd_T39 l0_0 x31_2).f0).length : Int)) = true := decide_eq_true c28
            clear c28
            by_cases c29 : (rd ((rd_T39 l0_0 x31_2).f0) (ji26)) ≥ (rd ((rd_T39 l0_0 x31_2).f0) x39_3)
            ·rw [if_pos c29] at H
             have c29b0 : decide ((rd ((rd_T39 l0_0 x31_2).f0) x39_3) ≤ (rd ((rd_T39 l0_0 x31_2).f0) (ji26))) = true := decide_eq_true c29
             clear c29
             obtain rfl := Option.some.inj H
             have p475 : 0 ≤ (x39_3 : Int) := dA_
             have q475 : x39_3 < (((rd_T39 l0_0 x31_2).f0).length : Int) := dA_
             obtain ⟨ad475, e475, hx475_0⟩ := Kd.at_int HR473_0.out x39_3 p475 q475
             cases e475
             replace hx475_0 := hX_ HB hx475_0
             replace p475 := eq_true p475; replace q475 := eq_true q475
             go_wp2_with (first | ((with_reducible refine gate_callee (f := 52) rfl ?_); refine gL_ (some 46) Try.func52 #[.int .i64 (rd ((rd_T39 l0_0 x31_2).f0) x39_3), .int .i64 1, .int .i64 x31_2] ?_; (with_reducible refine (impl_in.calls (rd ((rd_T39 l0_0 x31_2).f0) x39_3) 1 x31_2 true _ A23.out).mono ?_); rintro e w' ⟨rfl, ⟨nd, rfl⟩⟩; refine ⟨_, rfl, ?_⟩; have hnb30 := NB474_469.out; have hnc30 := NB469_474.out; obtain ⟨hcz31_0, hcz31_1, hcz31_2, hcz31_3, hfz31_0, hfz31_1, hfz31_2, hfz31_3⟩ := cf4_ BK474; have p477 : 0 ≤ ((ji26) : Int) := dA_; have q477 : (ji26) < (((rd_T39 l0_0 x31_2).f0).length : Int) := dA_; obtain ⟨ad477, e477, hx477_0⟩ := Kd.at_int HR473_0.out (ji26) p477 q477; obtain rfl : ad475 = ad477 := (by injection e477); replace hx477_0 := hX_ HB hx477_0; replace p477 := eq_true p477; replace q477 := eq_true q477))
             go_ret
             exact ⟨by first | rfl | (simp [errW_none, errW_some] <;> rfl) | (simp only [← hji26]; first | rfl | (simp [errW_none, errW_some] <;> rfl)) | (simp [*, errW_none, errW_some] <;> rfl), sABelo_15⟩
            ·rw [if_neg c29] at H
             have c29b0 : decide ((rd ((rd_T39 l0_0 x31_2).f0) x39_3) ≤ (rd ((rd_T39 l0_0 x31_2).f0) (ji26))) = false := decide_eq_false c29
             clear c29; have H' := mk_ H; clear H
             have p475 : 0 ≤ (x39_3 : Int) := dA_
             have q475 : x39_3 < (((rd_T39 l0_0 x31_2).f0).length : Int) := dA_
             obtain ⟨ad475, e475, hx475_0⟩ := Kd.at_int HR473_0.out x39_3 p475 q475
             cases e475
             replace hx475_0 := hX_ HB hx475_0
             replace p475 := eq_true p475; replace q475 := eq_true q475
             go_wp2_with (first | ((with_reducible refine gate_callee (f := 52) rfl ?_); refine gL_ (some 46) Try.func52 #[.int .i64 (rd ((rd_T39 l0_0 x31_2).f0) x39_3), .int .i64 1, .int .i64 x31_2] ?_; (with_reducible refine (impl_in.calls (rd ((rd_T39 l0_0 x31_2).f0) x39_3) 1 x31_2 true _ A23.out).mono ?_); rintro e w' ⟨rfl, ⟨nd, rfl⟩⟩; refine ⟨_, rfl, ?_⟩; have hnb32 := NB474_469.out; have hnc32 := NB469_474.out; obtain ⟨hcz33_0, hcz33_1, hcz33_2, hcz33_3, hfz33_0, hfz33_1, hfz33_2, hfz33_3⟩ := cf4_ BK474; have p477 : 0 ≤ ((ji26) : Int) := dA_; have q477 : (ji26) < (((rd_T39 l0_0 x31_2).f0).length : Int) := dA_; obtain ⟨ad477, e477, hx477_0⟩ := Kd.at_int HR473_0.out (ji26) p477 q477; obtain rfl : ad475 = ad477 := (by injection e477); replace hx477_0 := hX_ HB hx477_0; replace p477 := eq_true p477; replace q477 := eq_true q477))
             go_roundg k3
             case measure => have := HJ1.out; have := HK2.out; have := HK3.out; omega
             case rel => exact ⟨(wrap64 (x39_3 + 1)), eS_, H', ⟨by have := HJ1.out; have := HK2.out; have := HK3.out; omega⟩, ⟨bT_ BK469⟩, ⟨bT_ BK474⟩, ⟨sABelo_15⟩⟩
           ·rw [if_neg c25] at H
            have c25b0 : decide (0 < x39_3) = false := decide_eq_false c25
            clear c25; have H' := mk_ H; clear H
            have p475 : 0 ≤ (x39_3 : Int) := dA_
            have q475 : x39_3 < (((rd_T39 l0_0 x31_2).f0).length : Int) := dA_
            obtain ⟨ad475, e475, hx475_0⟩ := Kd.at_int HR473_0.out x39_3 p475 q475
            cases e475
            replace hx475_0 := hX_ HB hx475_0
            replace p475 := eq_true p475; replace q475 := eq_true q475
            go_wp2_with (first | ((with_reducible refine gate_callee (f := 52) rfl ?_); refine gL_ (some 46) Try.func52 #[.int .i64 (rd ((rd_T39 l0_0 x31_2).f0) x39_3), .int .i64 1, .int .i64 x31_2] ?_; (with_reducible refine (impl_in.calls (rd ((rd_T39 l0_0 x31_2).f0) x39_3) 1 x31_2 true _ A23.out).mono ?_); rintro e w' ⟨rfl, ⟨nd, rfl⟩⟩; refine ⟨_, rfl, ?_⟩))
            go_roundg k3
            case measure => have := HJ1.out; have := HK2.out; have := HK3.out; omega
            case rel => exact ⟨(wrap64 (x39_3 + 1)), eS_, H', ⟨by have := HJ1.out; have := HK2.out; have := HK3.out; omega⟩, ⟨bT_ BK469⟩, ⟨bT_ BK474⟩, ⟨sABelo_15⟩⟩
          ·replace c24 := Bool.eq_false_iff.mpr c24
           subst c24
           replace H := ifF_ H
           obtain rfl := Option.some.inj H
           have p475 : 0 ≤ (x39_3 : Int) := dA_
           have q475 : x39_3 < (((rd_T39 l0_0 x31_2).f0).length : Int) := dA_
           obtain ⟨ad475, e475, hx475_0⟩ := Kd.at_int HR473_0.out x39_3 p475 q475
           cases e475
           replace hx475_0 := hX_ HB hx475_0
           replace p475 := eq_true p475; replace q475 := eq_true q475
           go_wp2_with (first | ((with_reducible refine gate_callee (f := 52) rfl ?_); refine gL_ (some 46) Try.func52 #[.int .i64 (rd ((rd_T39 l0_0 x31_2).f0) x39_3), .int .i64 1, .int .i64 x31_2] ?_; (with_reducible refine (impl_in.calls (rd ((rd_T39 l0_0 x31_2).f0) x39_3) 1 x31_2 false _ A23.out).mono ?_); rintro e w' ⟨rfl, ⟨nd, rfl⟩⟩; refine ⟨_, rfl, ?_⟩))
           go_ret
           exact ⟨eW_, sABelo_15⟩
         ·rw [if_neg c20] at H
          have c20b0 := decide_eq_false c20
          clear c20; replace H := Option.bind_eq_some_iff.mp H
          obtain ⟨t478, A340, H⟩ := H
          (try dsimp only at H)
          have A34 := mk_ A340; clear A340
          by_cases c35 : t478 = true
          ·subst c35
           replace H := ifT_ H; replace H := Option.bind_eq_some_iff.mp H
           obtain ⟨t479, A360, H⟩ := H
           (try dsimp only at H)
           have A36 := mk_ A360; clear A360
           by_cases c37 : t479 = true
           ·subst c37
            replace H := ifT_ H; replace H := Option.bind_eq_some_iff.mp H
            obtain ⟨t480, A380, H⟩ := H
            (try dsimp only at H)
            have A38 := mk_ A380; clear A380
            by_cases c39 : t480 = true
            ·subst c39
             replace H := ifT_ H; have H' := mk_ H; clear H; have hnb40 := NB474_469.out; have hnc40 := NB469_474.out
             obtain ⟨hcz41_0, hcz41_1, hcz41_2, hcz41_3, hfz41_0, hfz41_1, hfz41_2, hfz41_3⟩ := cf4_ BK474
             obtain ⟨hcz42_0, hcz42_1, hfz42_0, hfz42_1⟩ := cf2_ BK469
             go_wp2_with (first | ((with_reducible refine gate_callee (f := 52) rfl ?_); refine gL_ (some 68) Try.func52 #[.int .i64 ((rd_T39 l0_0 x31_2).f1), .int .i64 1, .int .i64 (l0_1.length : Int)] ?_; (with_reducible refine (impl_in.calls ((rd_T39 l0_0 x31_2).f1) 1 (l0_1.length : Int) true _ A34.out).mono ?_); rintro e w' ⟨rfl, ⟨nd, rfl⟩⟩; refine ⟨_, rfl, ?_⟩) | (go_at_call 52; (with_reducible refine (impl_in.calls ((rd_T39 l0_0 x31_2).f2) 0 1000000000000 true _ A36.out).mono ?_); rintro e w' ⟨rfl, ⟨nd, rfl⟩⟩) | (go_at_call 52; (with_reducible refine (impl_in.calls ((rd_T39 l0_0 x31_2).f3) 1 5 true _ A38.out).mono ?_); rintro e w' ⟨rfl, ⟨nd, rfl⟩⟩))
             go_roundg k3
             case measure => have := HJ1.out; have := HK2.out; have := HK3.out; omega
             case rel => exact ⟨(wrap64 (x31_2 + 1)), eS_, H', ⟨by have := HJ1.out; have := HK2.out; have := HK3.out; omega⟩, ⟨bT_ BK469⟩, ⟨sABelo_15⟩⟩
            ·replace c39 := Bool.eq_false_iff.mpr c39
             subst c39
             replace H := ifF_ H
             obtain rfl := Option.some.inj H
             have hnb43 := NB474_469.out; have hnc43 := NB469_474.out
             obtain ⟨hcz44_0, hcz44_1, hcz44_2, hcz44_3, hfz44_0, hfz44_1, hfz44_2, hfz44_3⟩ := cf4_ BK474
             obtain ⟨hcz45_0, hcz45_1, hfz45_0, hfz45_1⟩ := cf2_ BK469
             go_wp2_with (first | ((with_reducible refine gate_callee (f := 52) rfl ?_); refine gL_ (some 68) Try.func52 #[.int .i64 ((rd_T39 l0_0 x31_2).f1), .int .i64 1, .int .i64 (l0_1.length : Int)] ?_; (with_reducible refine (impl_in.calls ((rd_T39 l0_0 x31_2).f1) 1 (l0_1.length : Int) true _ A34.out).mono ?_); rintro e w' ⟨rfl, ⟨nd, rfl⟩⟩; refine ⟨_, rfl, ?_⟩) | (go_at_call 52; (with_reducible refine (impl_in.calls ((rd_T39 l0_0 x31_2).f2) 0 1000000000000 true _ A36.out).mono ?_); rintro e w' ⟨rfl, ⟨nd, rfl⟩⟩) | (go_at_call 52; (with_reducible refine (impl_in.calls ((rd_T39 l0_0 x31_2).f3) 1 5 false _ A38.out).mono ?_); rintro e w' ⟨rfl, ⟨nd, rfl⟩⟩))
             go_ret
             exact ⟨eW_, sABelo_15⟩
           ·replace c37 := Bool.eq_false_iff.mpr c37
            subst c37
            replace H := ifF_ H
            obtain rfl := Option.some.inj H
            have hnb46 := NB474_469.out; have hnc46 := NB469_474.out
            obtain ⟨hcz47_0, hcz47_1, hcz47_2, hcz47_3, hfz47_0, hfz47_1, hfz47_2, hfz47_3⟩ := cf4_ BK474
            obtain ⟨hcz48_0, hcz48_1, hfz48_0, hfz48_1⟩ := cf2_ BK469
            go_wp2_with (first | ((with_reducible refine gate_callee (f := 52) rfl ?_); refine gL_ (some 68) Try.func52 #[.int .i64 ((rd_T39 l0_0 x31_2).f1), .int .i64 1, .int .i64 (l0_1.length : Int)] ?_; (with_reducible refine (impl_in.calls ((rd_T39 l0_0 x31_2).f1) 1 (l0_1.length : Int) true _ A34.out).mono ?_); rintro e w' ⟨rfl, ⟨nd, rfl⟩⟩; refine ⟨_, rfl, ?_⟩) | (go_at_call 52; (with_reducible refine (impl_in.calls ((rd_T39 l0_0 x31_2).f2) 0 1000000000000 false _ A36.out).mono ?_); rintro e w' ⟨rfl, ⟨nd, rfl⟩⟩))
            go_ret
            exact ⟨eW_, sABelo_15⟩
          ·replace c35 := Bool.eq_false_iff.mpr c35
           subst c35
           replace H := ifF_ H
           obtain rfl := Option.some.inj H
           have hnb49 := NB474_469.out; have hnc49 := NB469_474.out
           obtain ⟨hcz50_0, hcz50_1, hcz50_2, hcz50_3, hfz50_0, hfz50_1, hfz50_2, hfz50_3⟩ := cf4_ BK474
           obtain ⟨hcz51_0, hcz51_1, hfz51_0, hfz51_1⟩ := cf2_ BK469
           go_wp2_with (first | ((with_reducible refine gate_callee (f := 52) rfl ?_); refine gL_ (some 68) Try.func52 #[.int .i64 ((rd_T39 l0_0 x31_2).f1), .int .i64 1, .int .i64 (l0_1.length : Int)] ?_; (with_reducible refine (impl_in.calls ((rd_T39 l0_0 x31_2).f1) 1 (l0_1.length : Int) false _ A34.out).mono ?_); rintro e w' ⟨rfl, ⟨nd, rfl⟩⟩; refine ⟨_, rfl, ?_⟩))
           go_ret
           exact ⟨eW_, sABelo_15⟩
      ·rw [if_neg c14] at H
       have c14b0 := decide_eq_false c14
       clear c14
       obtain rfl := Option.some.inj H
       go_wp2
       go_ret
       exact ⟨eW_, sABelo_15⟩

end Go.Proofs.Ytjoghfehmhapbaa.QFnLateOnce
