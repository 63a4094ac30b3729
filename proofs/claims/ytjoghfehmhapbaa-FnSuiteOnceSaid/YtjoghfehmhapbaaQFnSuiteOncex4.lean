-- Written by a program of this session out of the printer's texts and contracts of its own.
import Derived.Test.YtjoghfehmhapbaaSq
import Derived.Test.YtjoghfehmhapbaaQFnSuiteOncex0
import Derived.Test.YtjoghfehmhapbaaQFnSuiteOncex3
namespace Go.Proofs.Ytjoghfehmhapbaa.QFnSuiteOnce
open Go.RowKit Go.Proofs.YtjoghfehmhapbaaW.PrintWords Go.Proofs.YtjoghfehmhapbaaW.PrintLast Go.Proofs.YtjoghfehmhapbaaW.PrintMore Go.Proofs.Ytjoghfehmhapbaa.Sq
attribute [local go_sem] max2_int min2_int max_two min_two max_three min_three max_four min_four   -- for this text's walks alone
set_option linter.unusedVariables false
set_option linter.unusedSimpArgs false
theorem sABelo_4 {b : Nat} {w W : World} (h : Below b w W := by repeat (first | (with_reducible first | exact Aside0.out (by assumption) | apply below_alloc | apply pw_below_drewN | apply below_drew1 | refine below_set ?_ (Aside0.out (by assumption))) | exact Aside0.out (by assumption))) : Below b w W := h

/-! ### spec_SuiteOk: function 44 -/
mutual
def spec_SuiteOk.j0 : Nat → Bool → List (S39) → List Int → Option (Bool)
 | 0, _, _, _ => none
 | k + 1, x36, x211000, x211001 => if x36 = true then (some false) else (spec_SuiteOk.l0 k 0 x211000 x211001)
def spec_SuiteOk.l0 : Nat → Int → List (S39) → List Int → Option (Bool)
 | 0, _, _, _ => none
 | k + 1, x3, x211000, x211001 => if x3 < (x211000.length : Int) then (if 0 ≤ x3 then (if (((rd_T39 x211000 x3).f0).length : Int) > x3 then (spec_SuiteOk.j2 k x3 true x211000 x211001 ((rd_T39 x211000 x3).f0) ((rd_T39 x211000 x3).f1) ((rd_T39 x211000 x3).f2) ((rd_T39 x211000 x3).f3)) else ((spec_l2In.f ((rd_T39 x211000 x3).f1) 1 (x211001.length : Int)).bind fun t214 => (if t214 = true then ((spec_l2In.f ((rd_T39 x211000 x3).f2) 0 1000000000000).bind fun t215 => (if t215 = true then ((spec_l2In.f ((rd_T39 x211000 x3).f3) 1 5).bind fun t216 => (spec_SuiteOk.j2 k x3 (!t216) x211000 x211001 ((rd_T39 x211000 x3).f0) ((rd_T39 x211000 x3).f1) ((rd_T39 x211000 x3).f2) ((rd_T39 x211000 x3).f3))) else (spec_SuiteOk.j2 k x3 true x211000 x211001 ((rd_T39 x211000 x3).f0) ((rd_T39 x211000 x3).f1) ((rd_T39 x211000 x3).f2) ((rd_T39 x211000 x3).f3)))) else (spec_SuiteOk.j2 k x3 true x211000 x211001 ((rd_T39 x211000 x3).f0) ((rd_T39 x211000 x3).f1) ((rd_T39 x211000 x3).f2) ((rd_T39 x211000 x3).f3))))) else (none)) else (some true)
def spec_SuiteOk.j2 : Nat → Int → Bool → List (S39) → List Int → List Int → Int → Int → Int → Option (Bool)
 | 0, _, _, _, _, _, _, _, _ => none
 | k + 1, x3, x74, x211000, x211001, x214000, x214001, x214002, x214003 => if x74 = true then (some false) else (spec_SuiteOk.l1 k x3 0 x211000 x211001 x214000 x214001 x214002 x214003)
def spec_SuiteOk.l1 : Nat → Int → Int → List (S39) → List Int → List Int → Int → Int → Int → Option (Bool)
 | 0, _, _, _, _, _, _, _, _ => none
 | k + 1, x3, x5, x211000, x211001, x214000, x214001, x214002, x214003 => if x5 < (x214000.length : Int) then (if 0 ≤ x5 then ((spec_l2In.f (rd x214000 x5) 1 x3).bind fun t218 => (if t218 = true then (if x5 > 0 then (if 0 ≤ (wrap64 (x5 - 1)) then (if (wrap64 (x5 - 1)) < (x214000.length : Int) then (if (rd x214000 x5) ≤ (rd x214000 (wrap64 (x5 - 1))) then (some false) else (spec_SuiteOk.l1 k x3 (wrap64 (x5 + 1)) x211000 x211001 x214000 x214001 x214002 x214003)) else (none)) else (none)) else (spec_SuiteOk.l1 k x3 (wrap64 (x5 + 1)) x211000 x211001 x214000 x214001 x214002 x214003)) else (some false))) else (none)) else (spec_SuiteOk.l0 k (wrap64 (x3 + 1)) x211000 x211001)
end
def spec_SuiteOk.f (k : Nat) (l0_0 : List (S39)) (l0_1 : List Int) : Option (Bool) := if (l0_0.length : Int) < 1 then (spec_SuiteOk.j0 k true l0_0 l0_1) else (if (l0_0.length : Int) > 60 then (spec_SuiteOk.j0 k true l0_0 l0_1) else (if (l0_1.length : Int) < 1 then (spec_SuiteOk.j0 k true l0_0 l0_1) else (if (l0_1.length : Int) > 6 then (spec_SuiteOk.j0 k true l0_0 l0_1) else ((spec_l15All.f k l0_1 (l0_1.length : Int) 1 60).bind fun t211 => (spec_SuiteOk.j0 k (!t211) l0_0 l0_1)))))
theorem spec_SuiteOk.mono_l : ∀ k, (∀ y0 y1 y2, LeO (spec_SuiteOk.j0 k y0 y1 y2) (spec_SuiteOk.j0 (k + 1) y0 y1 y2)) ∧ (∀ y0 y1 y2, LeO (spec_SuiteOk.l0 k y0 y1 y2) (spec_SuiteOk.l0 (k + 1) y0 y1 y2)) ∧ (∀ y0 y1 y2 y3 y4 y5 y6 y7, LeO (spec_SuiteOk.j2 k y0 y1 y2 y3 y4 y5 y6 y7) (spec_SuiteOk.j2 (k + 1) y0 y1 y2 y3 y4 y5 y6 y7)) ∧ (∀ y0 y1 y2 y3 y4 y5 y6 y7, LeO (spec_SuiteOk.l1 k y0 y1 y2 y3 y4 y5 y6 y7) (spec_SuiteOk.l1 (k + 1) y0 y1 y2 y3 y4 y5 y6 y7))
 | 0 => ⟨fun _ _ _ r h => by simp [spec_SuiteOk.j0] at h, fun _ _ _ r h => by simp [spec_SuiteOk.l0] at h, fun _ _ _ _ _ _ _ _ r h => by simp [spec_SuiteOk.j2] at h, fun _ _ _ _ _ _ _ _ r h => by simp [spec_SuiteOk.l1] at h⟩
 | k + 1 => by
  obtain ⟨ih0, ih1, ih2, ih3⟩ := spec_SuiteOk.mono_l k; refine ⟨?_, ?_, ?_, ?_⟩; intro y0 y1 y2; unfold spec_SuiteOk.j0; rotate_left; intro y0 y1 y2; unfold spec_SuiteOk.l0; rotate_left; intro y0 y1 y2 y3 y4 y5 y6 y7; unfold spec_SuiteOk.j2; rotate_left; intro y0 y1 y2 y3 y4 y5 y6 y7; unfold spec_SuiteOk.l1; rotate_left
  all_goals repeat' first
  | (with_reducible exact ih0 _ _ _)
  | (with_reducible exact ih1 _ _ _)
  | (with_reducible exact ih2 _ _ _ _ _ _ _ _)
  | (with_reducible exact ih3 _ _ _ _ _ _ _ _)
  | (with_reducible exact spec_l15All.mono _ _ _ _ _)
  | (with_reducible exact LeO.refl _)
  | (with_reducible exact LeO.none _)
  | (with_reducible refine LeO.ite ?_ ?_)
  | (with_reducible refine LeO.bind ?_ (fun _ => ?_))
  | exact ih0 _ _ _
  | exact ih1 _ _ _
  | exact ih2 _ _ _ _ _ _ _ _
  | exact ih3 _ _ _ _ _ _ _ _
  | exact spec_l15All.mono _ _ _ _ _
  | exact LeO.none _
  | refine LeO.ite ?_ ?_
  | refine LeO.bind ?_ (fun _ => ?_)
theorem spec_SuiteOk.mono : ∀ a0 a1 k, LeO (spec_SuiteOk.f k a0 a1) (spec_SuiteOk.f (k + 1) a0 a1) := by
 intro a0 a1 k; obtain ⟨ih0, ih1, ih2, ih3⟩ := spec_SuiteOk.mono_l k; unfold spec_SuiteOk.f
 repeat' first
   | (with_reducible exact ih0 _ _ _)
   | (with_reducible exact ih1 _ _ _)
   | (with_reducible exact ih2 _ _ _ _ _ _ _ _)
   | (with_reducible exact ih3 _ _ _ _ _ _ _ _)
   | (with_reducible exact spec_l15All.mono _ _ _ _ _)
   | (with_reducible exact LeO.refl _)
   | (with_reducible exact LeO.none _)
   | (with_reducible refine LeO.ite ?_ ?_)
   | (with_reducible refine LeO.bind ?_ (fun _ => ?_))
   | exact ih0 _ _ _
   | exact ih1 _ _ _
   | exact ih2 _ _ _ _ _ _ _ _
   | exact ih3 _ _ _ _ _ _ _ _
   | exact LeO.none _
   | refine LeO.ite ?_ ?_
   | refine LeO.bind ?_ (fun _ => ?_)
set_option maxHeartbeats 8000000 in
set_option maxRecDepth 100000 in
theorem spec_SuiteOk.calls (k : Nat) (A0_0 : Option Addr) (c0_0 : Nat) (l0_0 : List (S39)) (A0_1 : Option Addr) (c0_1 : Nat) (l0_1 : List Int) (r : Bool) (w : World) (hr0_0 : Kd.C k39 w A0_0 l0_0.length l0_0) (hc0_0 : l0_0.length ≤ c0_0) (hr0_1 : Kd.C (Kd.int .i64) w A0_1 l0_1.length l0_1) (hc0_1 : l0_1.length ≤ c0_1) (h : spec_SuiteOk.f k l0_0 l0_1 = some r) :
  Calls Try.prog 44 #[.agg #[.slice A0_0 l0_0.length c0_0, .slice A0_1 l0_1.length c0_1]] w fun e w' => e = .returned (.bool r) ∧ Below w.heap.size w w' := by
 have hu27 := Try.underlying27; have hu39 := Try.underlying39; have HR0_0 := mk_ hr0_0; have HC0_0 := mk_ hc0_0; clear hr0_0 hc0_0; have HR0_1 := mk_ hr0_1; have HC0_1 := mk_ hc0_1; clear hr0_1 hc0_1; have HB := mk_ (Below.refl w.heap.size w); have H : (if (l0_0.length : Int) < 1 then (spec_SuiteOk.j0 k true l0_0 l0_1) else (if (l0_0.length : Int) > 60 then (spec_SuiteOk.j0 k true l0_0 l0_1) else (if (l0_1.length : Int) < 1 then (spec_SuiteOk.j0 k true l0_0 l0_1) else (if (l0_1.length : Int) > 6 then (spec_SuiteOk.j0 k true l0_0 l0_1) else ((spec_l15All.f k l0_1 (l0_1.length : Int) 1 60).bind fun t211 => (spec_SuiteOk.j0 k (!t211) l0_0 l0_1)))))) = some r := h; clear h; have HC2 := mk_ H; clear H; go_enter Try.func44, Try.ntmps44
 go_upto_region 1 with (first | ((with_reducible refine gate_dst (N := 1) rfl ?_); (try (refine gate_guard (by rfl) ?_; dsimp only)); refine box_event ?hg (N := 1) ?hd (cs := #[.slice A0_0 l0_0.length c0_0, .slice A0_1 l0_1.length c0_1]) (t := 27) ?hr ?_; (case hd => rfl); (case hg => rfl); (case hr => first | (go_simp; done) | (go_simp; rfl)); intro gb210 hg w3 hbox hb; have BK210 := mk_ (hbox); have GW210 := gE_ HB hg; have GE210 := gE_ HB hg; replace HB := bS_ HB hb; clear hb hbox hg))
 repeat (go_quiet (fail); go_upto_region 1 with (first | ((with_reducible refine gate_dst (N := 1) rfl ?_); (try (refine gate_guard (by rfl) ?_; dsimp only)); refine box_event ?hg (N := 1) ?hd (cs := #[.slice A0_0 l0_0.length c0_0, .slice A0_1 l0_1.length c0_1]) (t := 27) ?hr ?_; (case hd => rfl); (case hg => rfl); (case hr => first | (go_simp; done) | (go_simp; rfl)); intro gb210 hg w3 hbox hb; have BK210 := mk_ (hbox); have GW210 := gE_ HB hg; have GE210 := gE_ HB hg; replace HB := bS_ HB hb; clear hb hbox hg)))
 (try simp only [Act.put, List.setIfInBounds_toArray, List.set_cons_zero, List.set_cons_succ])
 go_cut [36] (fun v36 wc => ∃ (kq : Nat) (x36_1 : Bool), v36 = .bool x36_1 ∧ Aside0 (spec_SuiteOk.j0 kq x36_1 l0_0 l0_1 = some r) ∧ Aside0 (kq ≤ k) ∧ Aside0 (wc.heap[gb210]? = some (.cells #[(.slice A0_0 l0_0.length c0_0), (.slice A0_1 l0_1.length c0_1)] 27 (0, 0))) ∧ Aside0 (Below w.heap.size w wc))
 case first =>
  have H := HC2.out; clear HC2
  by_cases c4 : (l0_0.length : Int) < 1
  ·rw [if_pos c4] at H; have c4b0 := decide_eq_true c4; have c4b1 : decide (l0_0.length < 1) = true := decide_eq_true (by omega); clear c4; (first | rw [c4b0] | (simp only [i64_w, i32_w]; rw [c4b0]) | skip); have H' := mk_ H; clear H; obtain ⟨hcz5_0, hcz5_1, hfz5_0, hfz5_1⟩ := cf2_ BK210
   go_wp2
   repeat (go_quiet (fail); try go_wp2)
   go_meet
   case rel => exact ⟨_, (true), eS_, H', ⟨by first | omega | exact Nat.le_refl _⟩, ⟨bT_ BK210⟩, ⟨sABelo_4⟩⟩
  ·rw [if_neg c4] at H; have c4b0 := decide_eq_false c4; have c4b1 : decide (l0_0.length < 1) = false := decide_eq_false (by omega); clear c4; (first | rw [c4b0] | (simp only [i64_w, i32_w]; rw [c4b0]) | skip)
   by_cases c6 : (l0_0.length : Int) > 60
   ·rw [if_pos c6] at H; have c6b0 : decide (60 < (l0_0.length : Int)) = true := decide_eq_true c6; have c6b1 : decide (60 < l0_0.length) = true := decide_eq_true (by omega); clear c6; have H' := mk_ H; clear H; obtain ⟨hcz7_0, hcz7_1, hfz7_0, hfz7_1⟩ := cf2_ BK210
    go_wp2
    repeat (go_quiet (fail); try go_wp2)
    go_meet
    case rel => exact ⟨_, (true), eS_, H', ⟨by first | omega | exact Nat.le_refl _⟩, ⟨bT_ BK210⟩, ⟨sABelo_4⟩⟩
   ·rw [if_neg c6] at H; have c6b0 : decide (60 < (l0_0.length : Int)) = false := decide_eq_false c6; have c6b1 : decide (60 < l0_0.length) = false := decide_eq_false (by omega); clear c6
    by_cases c8 : (l0_1.length : Int) < 1
    ·rw [if_pos c8] at H; have c8b0 := decide_eq_true c8; have c8b1 : decide (l0_1.length < 1) = true := decide_eq_true (by omega); clear c8; have H' := mk_ H; clear H; obtain ⟨hcz9_0, hcz9_1, hfz9_0, hfz9_1⟩ := cf2_ BK210
     go_wp2
     repeat (go_quiet (fail); try go_wp2)
     go_meet
     case rel => exact ⟨_, (true), eS_, H', ⟨by first | omega | exact Nat.le_refl _⟩, ⟨bT_ BK210⟩, ⟨sABelo_4⟩⟩
    ·rw [if_neg c8] at H; have c8b0 := decide_eq_false c8; have c8b1 : decide (l0_1.length < 1) = false := decide_eq_false (by omega); clear c8
     by_cases c10 : (l0_1.length : Int) > 6
     ·rw [if_pos c10] at H; have c10b0 : decide (6 < (l0_1.length : Int)) = true := decide_eq_true c10; have c10b1 : decide (6 < l0_1.length) = true := decide_eq_true (by omega); clear c10; have H' := mk_ H; clear H; obtain ⟨hcz11_0, hcz11_1, hfz11_0, hfz11_1⟩ := cf2_ BK210
      go_wp2
      repeat (go_quiet (fail); try go_wp2)
      go_meet
      case rel => exact ⟨_, (true), eS_, H', ⟨by first | omega | exact Nat.le_refl _⟩, ⟨bT_ BK210⟩, ⟨sABelo_4⟩⟩
     ·rw [if_neg c10] at H; have c10b0 : decide (6 < (l0_1.length : Int)) = false := decide_eq_false c10; have c10b1 : decide (6 < l0_1.length) = false := decide_eq_false (by omega); clear c10; replace H := Option.bind_eq_some_iff.mp H; obtain ⟨t211, A120, H⟩ := H; (try dsimp only at H); have A12 := mk_ A120; clear A120; have H' := mk_ H; clear H; obtain ⟨hcz13_0, hcz13_1, hfz13_0, hfz13_1⟩ := cf2_ BK210; have START_ := True.intro
      repeat ((first | go_quiet (first | (go_at_call 77; (with_reducible refine (spec_l15All.calls k _ _ l0_1 (l0_1.length : Int) 1 60 t211 _ ?side1 ?side2 A12.out).mono ?_); (case side1 => exact cB_ HR0_1 HB); (case side2 => exact HC0_1.out); rintro e w' ⟨rfl, ⟨nd, rfl⟩⟩; (try exact dN_))) | clear START_); try go_wp2_with (first | (go_at_call 77; (with_reducible refine (spec_l15All.calls k _ _ l0_1 (l0_1.length : Int) 1 60 t211 _ ?side1 ?side2 A12.out).mono ?_); (case side1 => exact cB_ HR0_1 HB); (case side2 => exact HC0_1.out); rintro e w' ⟨rfl, ⟨nd, rfl⟩⟩; (try exact dN_))))
      go_meet
      case rel => exact ⟨_, (!t211), eS_, H', ⟨by first | omega | exact Nat.le_refl _⟩, ⟨bT_ BK210⟩, ⟨sABelo_4⟩⟩
 case rest =>
  clear HC2; obtain ⟨kq, x36_1, rfl, HA, HJ1, BK210, HB⟩ := hcut
  cases kq with
  | zero => exact absurd HA.out (by simp [spec_SuiteOk.j0])
  | succ kj1 =>
   have H := HA.out; clear HA; simp only [spec_SuiteOk.j0] at H
   by_cases c14 : x36_1 = true
   ·subst c14; replace H := ifT_ H; obtain rfl := Option.some.inj H
    go_wp2
    repeat (go_quiet (fail); try go_wp2)
    go_ret; exact ⟨eW_, sABelo_4⟩
   ·replace c14 := Bool.eq_false_iff.mpr c14; subst c14; replace H := ifF_ H; have H' := mk_ H; clear H
    go_wp2
    repeat (go_quiet (fail); try go_wp2)
    go_loopg [3] kj1 (fun kq v3 w' => ∃ (x3_2 : Int), v3 = .int .i64 x3_2 ∧ Aside0 (spec_SuiteOk.l0 kq x3_2 l0_0 l0_1 = some r) ∧ Aside0 (kq ≤ kj1) ∧ Aside0 (w'.heap[gb210]? = some (.cells #[(.slice A0_0 l0_0.length c0_0), (.slice A0_1 l0_1.length c0_1)] 27 (0, 0))) ∧ Aside0 (Below w.heap.size w w'))
    case atStart => exact ⟨(0), eS_, H', ⟨Nat.le_refl _⟩, ⟨bT_ BK210⟩, ⟨sABelo_4⟩⟩
    case round =>
     clear H'; (try clear c14); obtain ⟨x3_2, rfl, HA, HK2, BK210, HB⟩ := hrel
     cases gk with
     | zero => exact absurd HA.out (by simp [spec_SuiteOk.l0])
     | succ k2 =>
      have H := HA.out; clear HA; simp only [spec_SuiteOk.l0] at H
      by_cases c15 : x3_2 < (l0_0.length : Int)
      ·rw [if_pos c15] at H; have c15b0 := decide_eq_true c15; clear c15; obtain ⟨c16, H⟩ := ifS_ H; have c16b0 : decide (0 ≤ x3_2) = true := decide_eq_true c16; clear c16; have HC17 := mk_ H; clear H; obtain ⟨hcz18_0, hcz18_1, hfz18_0, hfz18_1⟩ := cf2_ BK210; have p212 : 0 ≤ (x3_2 : Int) := dA_; have q212 : x3_2 < (l0_0.length : Int) := dA_; obtain ⟨ad212, A212_0, c212_0, e212, hx212_0, hx212_1, hx212_2, hx212_3, hl212_0, hi212_0⟩ := at_T39 HR0_0.out x3_2 p212 q212
       cases e212
       replace hx212_0 := hX_ HB hx212_0; replace hx212_1 := hX_ HB hx212_1; replace hx212_2 := hX_ HB hx212_2; replace hx212_3 := hX_ HB hx212_3; have HR212_0 := mk_ hi212_0; have HC212_0 := mk_ hl212_0; clear hi212_0 hl212_0; replace p212 := eq_true p212; replace q212 := eq_true q212
       go_upto_region 7 with (first | ((with_reducible refine gate_dst (N := 4) rfl ?_); (try (refine gate_guard (by rfl) ?_; dsimp only)); refine box_event ?hg (N := 4) ?hd (cs := #[.slice none 0 0, .int .i64 0, .int .i64 0, .int .i64 0]) (t := 39) ?hr ?_; (case hd => rfl); (case hg => rfl); (case hr => first | (go_simp; done) | (go_simp; rfl)); intro gb213 hg w19 hbox hb; have BK213 := mk_ (hbox); have GW213 := gE_ HB hg; have GE213 := gE_ HB hg; replace HB := bS_ HB hb; have NB210_213 := nL_ BK210 hg; have NB213_210 := nG_ BK210 hg; replace BK210 := bB_ BK210 hb; clear hb hbox hg; have hnb20 := NB213_210.out; have hnc20 := NB210_213.out; obtain ⟨hcz21_0, hcz21_1, hcz21_2, hcz21_3, hfz21_0, hfz21_1, hfz21_2, hfz21_3⟩ := cf4_ BK213))
       repeat (go_quiet (fail); go_upto_region 7 with (first | ((with_reducible refine gate_dst (N := 4) rfl ?_); (try (refine gate_guard (by rfl) ?_; dsimp only)); refine box_event ?hg (N := 4) ?hd (cs := #[.slice none 0 0, .int .i64 0, .int .i64 0, .int .i64 0]) (t := 39) ?hr ?_; (case hd => rfl); (case hg => rfl); (case hr => first | (go_simp; done) | (go_simp; rfl)); intro gb213 hg w19 hbox hb; have BK213 := mk_ (hbox); have GW213 := gE_ HB hg; have GE213 := gE_ HB hg; replace HB := bS_ HB hb; have NB210_213 := nL_ BK210 hg; have NB213_210 := nG_ BK210 hg; replace BK210 := bB_ BK210 hb; clear hb hbox hg; have hnb20 := NB213_210.out; have hnc20 := NB210_213.out; obtain ⟨hcz21_0, hcz21_1, hcz21_2, hcz21_3, hfz21_0, hfz21_1, hfz21_2, hfz21_3⟩ := cf4_ BK213)))
       (try simp only [Act.put, List.setIfInBounds_toArray, List.set_cons_zero, List.set_cons_succ])
       go_cut [74] (fun v74 wc => ∃ (kq : Nat) (x74_16 : Bool), v74 = .bool x74_16 ∧ Aside0 (spec_SuiteOk.j2 kq x3_2 x74_16 l0_0 l0_1 ((rd_T39 l0_0 x3_2).f0) ((rd_T39 l0_0 x3_2).f1) ((rd_T39 l0_0 x3_2).f2) ((rd_T39 l0_0 x3_2).f3) = some r) ∧ Aside0 (kq ≤ k2) ∧ Aside0 (wc.heap[gb210]? = some (.cells #[(.slice (some ad212) l0_0.length c0_0), (.slice A0_1 l0_1.length c0_1)] 27 (0, 0))) ∧ Aside0 (wc.heap[gb213]? = some (.cells #[(.slice A212_0 ((rd_T39 l0_0 x3_2).f0).length c212_0), .int .i64 ((rd_T39 l0_0 x3_2).f1), .int .i64 ((rd_T39 l0_0 x3_2).f2), .int .i64 ((rd_T39 l0_0 x3_2).f3)] 39 (0, 0))) ∧ Aside0 (Below w.heap.size w wc))
       case first =>
        have H := HC17.out; clear HC17
        by_cases c22 : (((rd_T39 l0_0 x3_2).f0).length : Int) > x3_2
        ·rw [if_pos c22] at H; have c22b0 : decide (x3_2 < (((rd_T39 l0_0 x3_2).f0).length : Int)) = true := decide_eq_true c22; clear c22; (first | rw [c22b0] | (simp only [i64_w, i32_w]; rw [c22b0]) | skip); have H' := mk_ H; clear H; have hnb23 := NB213_210.out; have hnc23 := NB210_213.out; obtain ⟨hcz24_0, hcz24_1, hcz24_2, hcz24_3, hfz24_0, hfz24_1, hfz24_2, hfz24_3⟩ := cf4_ BK213
         go_wp2
         repeat (go_quiet (fail); try go_wp2)
         go_meet
         case rel => exact ⟨_, (true), eS_, H', ⟨by have := HJ1.out; have := HK2.out; first | omega | exact Nat.le_refl _⟩, ⟨bF_ BK210 NB210_213⟩, ⟨bP_ BK213⟩, ⟨sABelo_4⟩⟩
        ·rw [if_neg c22] at H; have c22b0 : decide (x3_2 < (((rd_T39 l0_0 x3_2).f0).length : Int)) = false := decide_eq_false c22; clear c22; (first | rw [c22b0] | (simp only [i64_w, i32_w]; rw [c22b0]) | skip); replace H := Option.bind_eq_some_iff.mp H; obtain ⟨t214, A250, H⟩ := H; (try dsimp only at H); have A25 := mk_ A250; clear A250
         by_cases c26 : t214 = true
         ·subst c26; replace H := ifT_ H; replace H := Option.bind_eq_some_iff.mp H; obtain ⟨t215, A270, H⟩ := H; (try dsimp only at H); have A27 := mk_ A270; clear A270
          by_cases c28 : t215 = true
          ·subst c28; replace H := ifT_ H; replace H := Option.bind_eq_some_iff.mp H; obtain ⟨t216, A290, H⟩ := H; (try dsimp only at H); have A29 := mk_ A290; clear A290; have H' := mk_ H; clear H; have hnb30 := NB213_210.out; have hnc30 := NB210_213.out; obtain ⟨hcz31_0, hcz31_1, hcz31_2, hcz31_3, hfz31_0, hfz31_1, hfz31_2, hfz31_3⟩ := cf4_ BK213; obtain ⟨hcz32_0, hcz32_1, hfz32_0, hfz32_1⟩ := cf2_ BK210; have START_ := True.intro
           repeat ((first | go_quiet (first | (go_at_call 60; (with_reducible refine (spec_l2In.calls ((rd_T39 l0_0 x3_2).f1) 1 (l0_1.length : Int) true _ A25.out).mono ?_); rintro e w' ⟨rfl, ⟨nd, rfl⟩⟩; (try exact dN_)) | (go_at_call 60; (with_reducible refine (spec_l2In.calls ((rd_T39 l0_0 x3_2).f2) 0 1000000000000 true _ A27.out).mono ?_); rintro e w' ⟨rfl, ⟨nd, rfl⟩⟩; (try exact dN_)) | (go_at_call 60; (with_reducible refine (spec_l2In.calls ((rd_T39 l0_0 x3_2).f3) 1 5 t216 _ A29.out).mono ?_); rintro e w' ⟨rfl, ⟨nd, rfl⟩⟩; (try exact dN_))) | clear START_); try go_wp2_with (first | (go_at_call 60; (with_reducible refine (spec_l2In.calls ((rd_T39 l0_0 x3_2).f1) 1 (l0_1.length : Int) true _ A25.out).mono ?_); rintro e w' ⟨rfl, ⟨nd, rfl⟩⟩; (try exact dN_)) | (go_at_call 60; (with_reducible refine (spec_l2In.calls ((rd_T39 l0_0 x3_2).f2) 0 1000000000000 true _ A27.out).mono ?_); rintro e w' ⟨rfl, ⟨nd, rfl⟩⟩; (try exact dN_)) | (go_at_call 60; (with_reducible refine (spec_l2In.calls ((rd_T39 l0_0 x3_2).f3) 1 5 t216 _ A29.out).mono ?_); rintro e w' ⟨rfl, ⟨nd, rfl⟩⟩; (try exact dN_))))
           go_meet
           case rel => exact ⟨_, (!t216), eS_, H', ⟨by have := HJ1.out; have := HK2.out; first | omega | exact Nat.le_refl _⟩, ⟨bF_ BK210 NB210_213⟩, ⟨bP_ BK213⟩, ⟨sABelo_4⟩⟩
          ·replace c28 := Bool.eq_false_iff.mpr c28; subst c28; replace H := ifF_ H; have H' := mk_ H; clear H; have hnb33 := NB213_210.out; have hnc33 := NB210_213.out; obtain ⟨hcz34_0, hcz34_1, hcz34_2, hcz34_3, hfz34_0, hfz34_1, hfz34_2, hfz34_3⟩ := cf4_ BK213; obtain ⟨hcz35_0, hcz35_1, hfz35_0, hfz35_1⟩ := cf2_ BK210; have START_ := True.intro
           repeat ((first | go_quiet (first | (go_at_call 60; (with_reducible refine (spec_l2In.calls ((rd_T39 l0_0 x3_2).f1) 1 (l0_1.length : Int) true _ A25.out).mono ?_); rintro e w' ⟨rfl, ⟨nd, rfl⟩⟩; (try exact dN_)) | (go_at_call 60; (with_reducible refine (spec_l2In.calls ((rd_T39 l0_0 x3_2).f2) 0 1000000000000 false _ A27.out).mono ?_); rintro e w' ⟨rfl, ⟨nd, rfl⟩⟩; (try exact dN_))) | clear START_); try go_wp2_with (first | (go_at_call 60; (with_reducible refine (spec_l2In.calls ((rd_T39 l0_0 x3_2).f1) 1 (l0_1.length : Int) true _ A25.out).mono ?_); rintro e w' ⟨rfl, ⟨nd, rfl⟩⟩; (try exact dN_)) | (go_at_call 60; (with_reducible refine (spec_l2In.calls ((rd_T39 l0_0 x3_2).f2) 0 1000000000000 false _ A27.out).mono ?_); rintro e w' ⟨rfl, ⟨nd, rfl⟩⟩; (try exact dN_))))
           go_meet
           case rel => exact ⟨_, (true), eS_, H', ⟨by have := HJ1.out; have := HK2.out; first | omega | exact Nat.le_refl _⟩, ⟨bF_ BK210 NB210_213⟩, ⟨bP_ BK213⟩, ⟨sABelo_4⟩⟩
         ·replace c26 := Bool.eq_false_iff.mpr c26; subst c26; replace H := ifF_ H; have H' := mk_ H; clear H; have hnb36 := NB213_210.out; have hnc36 := NB210_213.out; obtain ⟨hcz37_0, hcz37_1, hcz37_2, hcz37_3, hfz37_0, hfz37_1, hfz37_2, hfz37_3⟩ := cf4_ BK213; obtain ⟨hcz38_0, hcz38_1, hfz38_0, hfz38_1⟩ := cf2_ BK210; have START_ := True.intro
          repeat ((first | go_quiet (first | (go_at_call 60; (with_reducible refine (spec_l2In.calls ((rd_T39 l0_0 x3_2).f1) 1 (l0_1.length : Int) false _ A25.out).mono ?_); rintro e w' ⟨rfl, ⟨nd, rfl⟩⟩; (try exact dN_))) | clear START_); try go_wp2_with (first | (go_at_call 60; (with_reducible refine (spec_l2In.calls ((rd_T39 l0_0 x3_2).f1) 1 (l0_1.length : Int) false _ A25.out).mono ?_); rintro e w' ⟨rfl, ⟨nd, rfl⟩⟩; (try exact dN_))))
          go_meet
          case rel => exact ⟨_, (true), eS_, H', ⟨by have := HJ1.out; have := HK2.out; first | omega | exact Nat.le_refl _⟩, ⟨bF_ BK210 NB210_213⟩, ⟨bP_ BK213⟩, ⟨sABelo_4⟩⟩
       case rest =>
        clear HC17; (try clear c14); (try clear c15); (try clear c15b0); (try clear c16); (try clear c16b0); (try clear hcz18_0); (try clear hcz18_1); (try clear hcz21_0); (try clear hcz21_1); (try clear hcz21_2); (try clear hcz21_3); (try clear hfz18_0); (try clear hfz18_1); (try clear hfz21_0); (try clear hfz21_1); (try clear hfz21_2); (try clear hfz21_3); (try clear hx212_0); (try clear hx212_1); (try clear hx212_2); (try clear hx212_3); (try clear p212); (try clear q212); obtain ⟨kq, x74_16, rfl, HA, HJ16, BK210, BK213, HB⟩ := hcut
        cases kq with
        | zero => exact absurd HA.out (by simp [spec_SuiteOk.j2])
        | succ kj16 =>
         have H := HA.out; clear HA; simp only [spec_SuiteOk.j2] at H
         by_cases c39 : x74_16 = true
         ·subst c39; replace H := ifT_ H; obtain rfl := Option.some.inj H
          go_wp2
          repeat (go_quiet (fail); try go_wp2)
          go_ret; exact ⟨eW_, sABelo_4⟩
         ·replace c39 := Bool.eq_false_iff.mpr c39; subst c39; replace H := ifF_ H; have H' := mk_ H; clear H
          go_wp2
          repeat (go_quiet (fail); try go_wp2)
          go_loopg [5] kj16 (fun kq v5 w' => ∃ (x5_4 : Int), v5 = .int .i64 x5_4 ∧ Aside0 (spec_SuiteOk.l1 kq x3_2 x5_4 l0_0 l0_1 ((rd_T39 l0_0 x3_2).f0) ((rd_T39 l0_0 x3_2).f1) ((rd_T39 l0_0 x3_2).f2) ((rd_T39 l0_0 x3_2).f3) = some r) ∧ Aside0 (kq ≤ kj16) ∧ Aside0 (w'.heap[gb210]? = some (.cells #[(.slice (some ad212) l0_0.length c0_0), (.slice A0_1 l0_1.length c0_1)] 27 (0, 0))) ∧ Aside0 (w'.heap[gb213]? = some (.cells #[(.slice A212_0 ((rd_T39 l0_0 x3_2).f0).length c212_0), .int .i64 ((rd_T39 l0_0 x3_2).f1), .int .i64 ((rd_T39 l0_0 x3_2).f2), .int .i64 ((rd_T39 l0_0 x3_2).f3)] 39 (0, 0))) ∧ Aside0 (Below w.heap.size w w'))
          case atStart => exact ⟨(0), eS_, H', ⟨Nat.le_refl _⟩, ⟨bT_ BK210⟩, ⟨bT_ BK213⟩, ⟨sABelo_4⟩⟩
          case round =>
           clear H'; (try clear c14); (try clear c15); (try clear c15b0); (try clear c16); (try clear c16b0); (try clear c39); (try clear hcz18_0); (try clear hcz18_1); (try clear hcz21_0); (try clear hcz21_1); (try clear hcz21_2); (try clear hcz21_3); (try clear hfz18_0); (try clear hfz18_1); (try clear hfz21_0); (try clear hfz21_1); (try clear hfz21_2); (try clear hfz21_3); (try clear hx212_0); (try clear hx212_1); (try clear hx212_2); (try clear hx212_3); (try clear p212); (try clear q212); obtain ⟨x5_4, rfl, HA, HK4, BK210, BK213, HB⟩ := hrel
           cases gk with
           | zero => exact absurd HA.out (by simp [spec_SuiteOk.l1])
           | succ k4 =>
            have H := HA.out; clear HA; simp only [spec_SuiteOk.l1] at H
            by_cases c40 : x5_4 < (((rd_T39 l0_0 x3_2).f0).length : Int)
            ·rw [if_pos c40] at H; have c40b0 := decide_eq_true c40; clear c40; obtain ⟨c41, H⟩ := ifS_ H; have c41b0 : decide (0 ≤ x5_4) = true := decide_eq_true c41; clear c41; replace H := Option.bind_eq_some_iff.mp H; obtain ⟨t218, A420, H⟩ := H; (try dsimp only at H); have A42 := mk_ A420; clear A420
             by_cases c43 : t218 = true
             ·subst c43; replace H := ifT_ H
              by_cases c44 : x5_4 > 0
              ·rw [if_pos c44] at H; have c44b0 : decide (0 < x5_4) = true := decide_eq_true c44; clear c44; obtain ⟨ji45, hji45⟩ : ∃ j_ : Int, (wrap64 (x5_4 - 1)) = j_ := ⟨_, rfl⟩
               replace H : (if 0 ≤ (ji45) then (if (ji45) < (((rd_T39 l0_0 x3_2).f0).length : Int) then (if (rd ((rd_T39 l0_0 x3_2).f0) x5_4) ≤ (rd ((rd_T39 l0_0 x3_2).f0) (ji45)) then (some false) else (spec_SuiteOk.l1 k4 x3_2 (wrap64 (x5_4 + 1)) l0_0 l0_1 ((rd_T39 l0_0 x3_2).f0) ((rd_T39 l0_0 x3_2).f1) ((rd_T39 l0_0 x3_2).f2) ((rd_T39 l0_0 x3_2).f3))) else (none)) else (none)) = some r := by first | (rw [hji45] at H; exact H) | (simp only [hji45] at H ⊢; exact H)
               (try rw [hji45] at A42); have hji45w : (IntKind.i64.wrap (x5_4 - 1)) = ji45 := (i64_w _).trans hji45; obtain ⟨c46, H⟩ := ifS_ H; have c46b0 : decide (0 ≤ (ji45)) = true := decide_eq_true c46; clear c46; obtain ⟨c47, H⟩ := ifS_ H; have c47b0 : decide ((ji45) < (((rd_T39 l0_0 x3_2).f0).length : Int)) = true := decide_eq_true c47; clear c47
               by_cases c48 : (rd ((rd_T39 l0_0 x3_2).f0) x5_4) ≤ (rd ((rd_T39 l0_0 x3_2).f0) (ji45))
               ·rw [if_pos c48] at H; have c48b0 := decide_eq_true c48; clear c48; obtain rfl := Option.some.inj H; have hnb49 := NB213_210.out; have hnc49 := NB210_213.out; obtain ⟨hcz50_0, hcz50_1, hcz50_2, hcz50_3, hfz50_0, hfz50_1, hfz50_2, hfz50_3⟩ := cf4_ BK213; have p217 : 0 ≤ (x5_4 : Int) := dA_; have q217 : x5_4 < (((rd_T39 l0_0 x3_2).f0).length : Int) := dA_; obtain ⟨ad217, e217, hx217_0⟩ := Kd.at_int HR212_0.out x5_4 p217 q217
                cases e217
                replace hx217_0 := hX_ HB hx217_0; replace p217 := eq_true p217; replace q217 := eq_true q217; have START_ := True.intro
                repeat ((first | go_quiet (first | (go_at_call 60; (with_reducible refine (spec_l2In.calls (rd ((rd_T39 l0_0 x3_2).f0) x5_4) 1 x3_2 true _ A42.out).mono ?_); rintro e w' ⟨rfl, ⟨nd, rfl⟩⟩; (try exact dN_); have p219 : 0 ≤ (x5_4 : Int) := dA_; have q219 : x5_4 < (((rd_T39 l0_0 x3_2).f0).length : Int) := dA_; obtain ⟨ad219, e219, hx219_0⟩ := Kd.at_int HR212_0.out x5_4 p219 q219; obtain rfl : ad217 = ad219 := (by injection e219); replace hx219_0 := hX_ HB hx219_0; replace p219 := eq_true p219; replace q219 := eq_true q219; have p220 : 0 ≤ ((ji45) : Int) := dA_; have q220 : (ji45) < (((rd_T39 l0_0 x3_2).f0).length : Int) := dA_; obtain ⟨ad220, e220, hx220_0⟩ := Kd.at_int HR212_0.out (ji45) p220 q220; obtain rfl : ad217 = ad220 := (by injection e220); replace hx220_0 := hX_ HB hx220_0; replace p220 := eq_true p220; replace q220 := eq_true q220)) | clear START_); try go_wp2_with (first | (go_at_call 60; (with_reducible refine (spec_l2In.calls (rd ((rd_T39 l0_0 x3_2).f0) x5_4) 1 x3_2 true _ A42.out).mono ?_); rintro e w' ⟨rfl, ⟨nd, rfl⟩⟩; (try exact dN_); have p219 : 0 ≤ (x5_4 : Int) := dA_; have q219 : x5_4 < (((rd_T39 l0_0 x3_2).f0).length : Int) := dA_; obtain ⟨ad219, e219, hx219_0⟩ := Kd.at_int HR212_0.out x5_4 p219 q219; obtain rfl : ad217 = ad219 := (by injection e219); replace hx219_0 := hX_ HB hx219_0; replace p219 := eq_true p219; replace q219 := eq_true q219; have p220 : 0 ≤ ((ji45) : Int) := dA_; have q220 : (ji45) < (((rd_T39 l0_0 x3_2).f0).length : Int) := dA_; obtain ⟨ad220, e220, hx220_0⟩ := Kd.at_int HR212_0.out (ji45) p220 q220; obtain rfl : ad217 = ad220 := (by injection e220); replace hx220_0 := hX_ HB hx220_0; replace p220 := eq_true p220; replace q220 := eq_true q220)))
                go_ret; exact ⟨by first | rfl | (simp [errW_none, errW_some] <;> rfl) | (simp only [← hji45]; first | rfl | (simp [errW_none, errW_some] <;> rfl)) | (simp [*, errW_none, errW_some] <;> rfl), sABelo_4⟩
               ·rw [if_neg c48] at H; have c48b0 := decide_eq_false c48; clear c48; have H' := mk_ H; clear H; have hnb51 := NB213_210.out; have hnc51 := NB210_213.out; obtain ⟨hcz52_0, hcz52_1, hcz52_2, hcz52_3, hfz52_0, hfz52_1, hfz52_2, hfz52_3⟩ := cf4_ BK213; have p217 : 0 ≤ (x5_4 : Int) := dA_; have q217 : x5_4 < (((rd_T39 l0_0 x3_2).f0).length : Int) := dA_; obtain ⟨ad217, e217, hx217_0⟩ := Kd.at_int HR212_0.out x5_4 p217 q217
                cases e217
                replace hx217_0 := hX_ HB hx217_0; replace p217 := eq_true p217; replace q217 := eq_true q217; have START_ := True.intro
                repeat ((first | go_quiet (first | (go_at_call 60; (with_reducible refine (spec_l2In.calls (rd ((rd_T39 l0_0 x3_2).f0) x5_4) 1 x3_2 true _ A42.out).mono ?_); rintro e w' ⟨rfl, ⟨nd, rfl⟩⟩; (try exact dN_); have p219 : 0 ≤ (x5_4 : Int) := dA_; have q219 : x5_4 < (((rd_T39 l0_0 x3_2).f0).length : Int) := dA_; obtain ⟨ad219, e219, hx219_0⟩ := Kd.at_int HR212_0.out x5_4 p219 q219; obtain rfl : ad217 = ad219 := (by injection e219); replace hx219_0 := hX_ HB hx219_0; replace p219 := eq_true p219; replace q219 := eq_true q219; have p220 : 0 ≤ ((ji45) : Int) := dA_; have q220 : (ji45) < (((rd_T39 l0_0 x3_2).f0).length : Int) := dA_; obtain ⟨ad220, e220, hx220_0⟩ := Kd.at_int HR212_0.out (ji45) p220 q220; obtain rfl : ad217 = ad220 := (by injection e220); replace hx220_0 := hX_ HB hx220_0; replace p220 := eq_true p220; replace q220 := eq_true q220)) | clear START_); try go_wp2_with (first | (go_at_call 60; (with_reducible refine (spec_l2In.calls (rd ((rd_T39 l0_0 x3_2).f0) x5_4) 1 x3_2 true _ A42.out).mono ?_); rintro e w' ⟨rfl, ⟨nd, rfl⟩⟩; (try exact dN_); have p219 : 0 ≤ (x5_4 : Int) := dA_; have q219 : x5_4 < (((rd_T39 l0_0 x3_2).f0).length : Int) := dA_; obtain ⟨ad219, e219, hx219_0⟩ := Kd.at_int HR212_0.out x5_4 p219 q219; obtain rfl : ad217 = ad219 := (by injection e219); replace hx219_0 := hX_ HB hx219_0; replace p219 := eq_true p219; replace q219 := eq_true q219; have p220 : 0 ≤ ((ji45) : Int) := dA_; have q220 : (ji45) < (((rd_T39 l0_0 x3_2).f0).length : Int) := dA_; obtain ⟨ad220, e220, hx220_0⟩ := Kd.at_int HR212_0.out (ji45) p220 q220; obtain rfl : ad217 = ad220 := (by injection e220); replace hx220_0 := hX_ HB hx220_0; replace p220 := eq_true p220; replace q220 := eq_true q220)))
                go_roundg k4
                case measure => have := HJ1.out; have := HK2.out; have := HJ16.out; have := HK4.out; omega
                case rel => exact ⟨(wrap64 (x5_4 + 1)), eS_, H', ⟨by have := HJ1.out; have := HK2.out; have := HJ16.out; have := HK4.out; omega⟩, ⟨bT_ BK210⟩, ⟨bT_ BK213⟩, ⟨sABelo_4⟩⟩
              ·rw [if_neg c44] at H; have c44b0 : decide (0 < x5_4) = false := decide_eq_false c44; clear c44; have H' := mk_ H; clear H; have hnb53 := NB213_210.out; have hnc53 := NB210_213.out; obtain ⟨hcz54_0, hcz54_1, hcz54_2, hcz54_3, hfz54_0, hfz54_1, hfz54_2, hfz54_3⟩ := cf4_ BK213; have p217 : 0 ≤ (x5_4 : Int) := dA_; have q217 : x5_4 < (((rd_T39 l0_0 x3_2).f0).length : Int) := dA_; obtain ⟨ad217, e217, hx217_0⟩ := Kd.at_int HR212_0.out x5_4 p217 q217
               cases e217
               replace hx217_0 := hX_ HB hx217_0; replace p217 := eq_true p217; replace q217 := eq_true q217; have START_ := True.intro
               repeat ((first | go_quiet (first | (go_at_call 60; (with_reducible refine (spec_l2In.calls (rd ((rd_T39 l0_0 x3_2).f0) x5_4) 1 x3_2 true _ A42.out).mono ?_); rintro e w' ⟨rfl, ⟨nd, rfl⟩⟩; (try exact dN_))) | clear START_); try go_wp2_with (first | (go_at_call 60; (with_reducible refine (spec_l2In.calls (rd ((rd_T39 l0_0 x3_2).f0) x5_4) 1 x3_2 true _ A42.out).mono ?_); rintro e w' ⟨rfl, ⟨nd, rfl⟩⟩; (try exact dN_))))
               go_roundg k4
               case measure => have := HJ1.out; have := HK2.out; have := HJ16.out; have := HK4.out; omega
               case rel => exact ⟨(wrap64 (x5_4 + 1)), eS_, H', ⟨by have := HJ1.out; have := HK2.out; have := HJ16.out; have := HK4.out; omega⟩, ⟨bT_ BK210⟩, ⟨bT_ BK213⟩, ⟨sABelo_4⟩⟩
             ·replace c43 := Bool.eq_false_iff.mpr c43; subst c43; replace H := ifF_ H; obtain rfl := Option.some.inj H; have hnb55 := NB213_210.out; have hnc55 := NB210_213.out; obtain ⟨hcz56_0, hcz56_1, hcz56_2, hcz56_3, hfz56_0, hfz56_1, hfz56_2, hfz56_3⟩ := cf4_ BK213; have p217 : 0 ≤ (x5_4 : Int) := dA_; have q217 : x5_4 < (((rd_T39 l0_0 x3_2).f0).length : Int) := dA_; obtain ⟨ad217, e217, hx217_0⟩ := Kd.at_int HR212_0.out x5_4 p217 q217
              cases e217
              replace hx217_0 := hX_ HB hx217_0; replace p217 := eq_true p217; replace q217 := eq_true q217; have START_ := True.intro
              repeat ((first | go_quiet (first | (go_at_call 60; (with_reducible refine (spec_l2In.calls (rd ((rd_T39 l0_0 x3_2).f0) x5_4) 1 x3_2 false _ A42.out).mono ?_); rintro e w' ⟨rfl, ⟨nd, rfl⟩⟩; (try exact dN_))) | clear START_); try go_wp2_with (first | (go_at_call 60; (with_reducible refine (spec_l2In.calls (rd ((rd_T39 l0_0 x3_2).f0) x5_4) 1 x3_2 false _ A42.out).mono ?_); rintro e w' ⟨rfl, ⟨nd, rfl⟩⟩; (try exact dN_))))
              go_ret; exact ⟨eW_, sABelo_4⟩
            ·rw [if_neg c40] at H; have c40b0 := decide_eq_false c40; clear c40; have H' := mk_ H; clear H; have hnb57 := NB213_210.out; have hnc57 := NB210_213.out; obtain ⟨hcz58_0, hcz58_1, hcz58_2, hcz58_3, hfz58_0, hfz58_1, hfz58_2, hfz58_3⟩ := cf4_ BK213
             go_wp2
             repeat (go_quiet (fail); try go_wp2)
             go_roundg k4
             case measure => have := HJ1.out; have := HK2.out; have := HJ16.out; have := HK4.out; omega
             case rel => exact ⟨(wrap64 (x3_2 + 1)), eS_, H', ⟨by have := HJ1.out; have := HK2.out; have := HJ16.out; have := HK4.out; omega⟩, ⟨bT_ BK210⟩, ⟨sABelo_4⟩⟩
      ·rw [if_neg c15] at H; have c15b0 := decide_eq_false c15; clear c15; obtain rfl := Option.some.inj H; obtain ⟨hcz59_0, hcz59_1, hfz59_0, hfz59_1⟩ := cf2_ BK210
       go_wp2
       repeat (go_quiet (fail); try go_wp2)
       go_ret; exact ⟨eW_, sABelo_4⟩

end Go.Proofs.Ytjoghfehmhapbaa.QFnSuiteOnce
