-- Written by a program of this session out of the printer's texts and contracts of its own.
import Derived.Test.YtjoghfehmhapbaaSq
import Derived.Test.YtjoghfehmhapbaaQFnSuiteOncex0
import Derived.Test.YtjoghfehmhapbaaQFnSuiteOncex5
namespace Go.Proofs.Ytjoghfehmhapbaa.QFnSuiteOnce
open Go.RowKit Go.Proofs.YtjoghfehmhapbaaW.PrintWords Go.Proofs.YtjoghfehmhapbaaW.PrintLast Go.Proofs.YtjoghfehmhapbaaW.PrintMore Go.Proofs.Ytjoghfehmhapbaa.Sq
attribute [local go_sem] max2_int min2_int max_two min_two max_three min_three max_four min_four   -- for this text's walks alone
set_option linter.unusedVariables false
set_option linter.unusedSimpArgs false
theorem sABelo_6 {b : Nat} {w W : World} (h : Below b w W := by repeat (first | (with_reducible first | exact Aside0.out (by assumption) | apply below_alloc | apply pw_below_drewN | apply below_drew1 | refine below_set ?_ (Aside0.out (by assumption))) | exact Aside0.out (by assumption))) : Below b w W := h

/-! ### impl_SuiteOk: function 46 -/
mutual
def impl_SuiteOk.j0 : Nat → Bool → List (S39) → List Int → Option (Bool)
 | 0, _, _, _ => none
 | k + 1, x27, x256000, x256001 => if x27 = true then (some false) else (impl_SuiteOk.l0 k x256000 (x256000.length : Int) 0 x256000 x256001)
def impl_SuiteOk.l0 : Nat → List (S39) → Int → Int → List (S39) → List Int → Option (Bool)
 | 0, _, _, _, _, _ => none
 | k + 1, x29, x30, x31, x256000, x256001 => if x31 < x30 then (if 0 ≤ x31 then (if x31 < (x29.length : Int) then (impl_SuiteOk.l1 k x31 x29 x30 x31 ((rd_T39 x29 x31).f0) (((rd_T39 x29 x31).f0).length : Int) 0 x256000 x256001 ((rd_T39 x29 x31).f0) ((rd_T39 x29 x31).f1) ((rd_T39 x29 x31).f2) ((rd_T39 x29 x31).f3)) else (none)) else (none)) else (some true)
def impl_SuiteOk.l1 : Nat → Int → List (S39) → Int → Int → List Int → Int → Int → List (S39) → List Int → List Int → Int → Int → Int → Option (Bool)
 | 0, _, _, _, _, _, _, _, _, _, _, _, _, _ => none
 | k + 1, x3, x29, x30, x31, x37, x38, x39, x256000, x256001, x261000, x261001, x261002, x261003 => if x39 < x38 then (if 0 ≤ x39 then (if x39 < (x37.length : Int) then ((impl_in.f (rd x37 x39) 1 x3).bind fun t262 => (if t262 = true then (if x39 > 0 then (if 0 ≤ (wrap64 (x39 - 1)) then (if (wrap64 (x39 - 1)) < (x261000.length : Int) then (if (rd x261000 (wrap64 (x39 - 1))) ≥ (rd x37 x39) then (some false) else (impl_SuiteOk.l1 k x3 x29 x30 x31 x37 x38 (wrap64 (x39 + 1)) x256000 x256001 x261000 x261001 x261002 x261003)) else (none)) else (none)) else (impl_SuiteOk.l1 k x3 x29 x30 x31 x37 x38 (wrap64 (x39 + 1)) x256000 x256001 x261000 x261001 x261002 x261003)) else (some false))) else (none)) else (none)) else ((impl_in.f x261001 1 (x256001.length : Int)).bind fun t264 => (if t264 = true then ((impl_in.f x261002 0 1000000000000).bind fun t265 => (if t265 = true then ((impl_in.f x261003 1 5).bind fun t266 => (if t266 = true then (impl_SuiteOk.l0 k x29 x30 (wrap64 (x31 + 1)) x256000 x256001) else (some false))) else (some false))) else (some false)))
end
def impl_SuiteOk.f (k : Nat) (l0_0 : List (S39)) (l0_1 : List Int) : Option (Bool) := (impl_in.f (l0_0.length : Int) 1 60).bind fun t256 => (if t256 = true then ((impl_in.f (l0_1.length : Int) 1 6).bind fun t257 => (if t257 = true then ((impl_each.f k l0_1 (l0_1.length : Int) 1 60).bind fun t258 => (impl_SuiteOk.j0 k (!t258) l0_0 l0_1)) else (impl_SuiteOk.j0 k true l0_0 l0_1))) else (impl_SuiteOk.j0 k true l0_0 l0_1))
theorem impl_SuiteOk.mono_l : ∀ k, (∀ y0 y1 y2, LeO (impl_SuiteOk.j0 k y0 y1 y2) (impl_SuiteOk.j0 (k + 1) y0 y1 y2)) ∧ (∀ y0 y1 y2 y3 y4, LeO (impl_SuiteOk.l0 k y0 y1 y2 y3 y4) (impl_SuiteOk.l0 (k + 1) y0 y1 y2 y3 y4)) ∧ (∀ y0 y1 y2 y3 y4 y5 y6 y7 y8 y9 y10 y11 y12, LeO (impl_SuiteOk.l1 k y0 y1 y2 y3 y4 y5 y6 y7 y8 y9 y10 y11 y12) (impl_SuiteOk.l1 (k + 1) y0 y1 y2 y3 y4 y5 y6 y7 y8 y9 y10 y11 y12))
 | 0 => ⟨fun _ _ _ r h => by simp [impl_SuiteOk.j0] at h, fun _ _ _ _ _ r h => by simp [impl_SuiteOk.l0] at h, fun _ _ _ _ _ _ _ _ _ _ _ _ _ r h => by simp [impl_SuiteOk.l1] at h⟩
 | k + 1 => by
  obtain ⟨ih0, ih1, ih2⟩ := impl_SuiteOk.mono_l k; refine ⟨?_, ?_, ?_⟩; intro y0 y1 y2; unfold impl_SuiteOk.j0; rotate_left; intro y0 y1 y2 y3 y4; unfold impl_SuiteOk.l0; rotate_left; intro y0 y1 y2 y3 y4 y5 y6 y7 y8 y9 y10 y11 y12; unfold impl_SuiteOk.l1; rotate_left
  all_goals repeat' first
  | (with_reducible exact ih0 _ _ _)
  | (with_reducible exact ih1 _ _ _ _ _)
  | (with_reducible exact ih2 _ _ _ _ _ _ _ _ _ _ _ _ _)
  | (with_reducible exact impl_each.mono _ _ _ _ _)
  | (with_reducible exact LeO.refl _)
  | (with_reducible exact LeO.none _)
  | (with_reducible refine LeO.ite ?_ ?_)
  | (with_reducible refine LeO.bind ?_ (fun _ => ?_))
  | exact ih0 _ _ _
  | exact ih1 _ _ _ _ _
  | exact ih2 _ _ _ _ _ _ _ _ _ _ _ _ _
  | exact impl_each.mono _ _ _ _ _
  | exact LeO.none _
  | refine LeO.ite ?_ ?_
  | refine LeO.bind ?_ (fun _ => ?_)
theorem impl_SuiteOk.mono : ∀ a0 a1 k, LeO (impl_SuiteOk.f k a0 a1) (impl_SuiteOk.f (k + 1) a0 a1) := by
 intro a0 a1 k; obtain ⟨ih0, ih1, ih2⟩ := impl_SuiteOk.mono_l k; unfold impl_SuiteOk.f
 repeat' first
   | (with_reducible exact ih0 _ _ _)
   | (with_reducible exact ih1 _ _ _ _ _)
   | (with_reducible exact ih2 _ _ _ _ _ _ _ _ _ _ _ _ _)
   | (with_reducible exact impl_each.mono _ _ _ _ _)
   | (with_reducible exact LeO.refl _)
   | (with_reducible exact LeO.none _)
   | (with_reducible refine LeO.ite ?_ ?_)
   | (with_reducible refine LeO.bind ?_ (fun _ => ?_))
   | exact ih0 _ _ _
   | exact ih1 _ _ _ _ _
   | exact ih2 _ _ _ _ _ _ _ _ _ _ _ _ _
   | exact LeO.none _
   | refine LeO.ite ?_ ?_
   | refine LeO.bind ?_ (fun _ => ?_)
set_option maxHeartbeats 8000000 in
set_option maxRecDepth 100000 in
theorem impl_SuiteOk.calls (k : Nat) (A0_0 : Option Addr) (c0_0 : Nat) (l0_0 : List (S39)) (A0_1 : Option Addr) (c0_1 : Nat) (l0_1 : List Int) (r : Bool) (w : World) (hr0_0 : Kd.C k39 w A0_0 l0_0.length l0_0) (hc0_0 : l0_0.length ≤ c0_0) (hr0_1 : Kd.C (Kd.int .i64) w A0_1 l0_1.length l0_1) (hc0_1 : l0_1.length ≤ c0_1) (h : impl_SuiteOk.f k l0_0 l0_1 = some r) :
  Calls Try.prog 46 #[.agg #[.slice A0_0 l0_0.length c0_0, .slice A0_1 l0_1.length c0_1]] w fun e w' => e = .returned (.bool r) ∧ Below w.heap.size w w' := by
 have hu27 := Try.underlying27; have hu39 := Try.underlying39; have HR0_0 := mk_ hr0_0; have HC0_0 := mk_ hc0_0; clear hr0_0 hc0_0; have HR0_1 := mk_ hr0_1; have HC0_1 := mk_ hc0_1; clear hr0_1 hc0_1; have HB := mk_ (Below.refl w.heap.size w); have H : ((impl_in.f (l0_0.length : Int) 1 60).bind fun t256 => (if t256 = true then ((impl_in.f (l0_1.length : Int) 1 6).bind fun t257 => (if t257 = true then ((impl_each.f k l0_1 (l0_1.length : Int) 1 60).bind fun t258 => (impl_SuiteOk.j0 k (!t258) l0_0 l0_1)) else (impl_SuiteOk.j0 k true l0_0 l0_1))) else (impl_SuiteOk.j0 k true l0_0 l0_1))) = some r := h; clear h; have HC2 := mk_ H; clear H; go_enter Try.func46, Try.ntmps46
 go_upto_region 1 with (first | ((with_reducible refine gate_dst (N := 1) rfl ?_); (try (refine gate_guard (by rfl) ?_; dsimp only)); refine box_event ?hg (N := 1) ?hd (cs := #[.slice A0_0 l0_0.length c0_0, .slice A0_1 l0_1.length c0_1]) (t := 27) ?hr ?_; (case hd => rfl); (case hg => rfl); (case hr => first | (go_simp; done) | (go_simp; rfl)); intro gb255 hg w3 hbox hb; have BK255 := mk_ (hbox); have GW255 := gE_ HB hg; have GE255 := gE_ HB hg; replace HB := bS_ HB hb; clear hb hbox hg))
 (try simp only [Act.put, List.setIfInBounds_toArray, List.set_cons_zero, List.set_cons_succ])
 go_cut [27] (fun v27 wc => ∃ (kq : Nat) (x27_1 : Bool), v27 = .bool x27_1 ∧ Aside0 (impl_SuiteOk.j0 kq x27_1 l0_0 l0_1 = some r) ∧ Aside0 (kq ≤ k) ∧ Aside0 (wc.heap[gb255]? = some (.cells #[(.slice A0_0 l0_0.length c0_0), (.slice A0_1 l0_1.length c0_1)] 27 (0, 0))) ∧ Aside0 (Below w.heap.size w wc))
 case first =>
  have H := HC2.out; clear HC2; replace H := Option.bind_eq_some_iff.mp H; obtain ⟨t256, A40, H⟩ := H; (try dsimp only at H); have A4 := mk_ A40; clear A40
  by_cases c5 : t256 = true
  ·subst c5; replace H := ifT_ H; replace H := Option.bind_eq_some_iff.mp H; obtain ⟨t257, A60, H⟩ := H; (try dsimp only at H); have A6 := mk_ A60; clear A60
   by_cases c7 : t257 = true
   ·subst c7; replace H := ifT_ H; replace H := Option.bind_eq_some_iff.mp H; obtain ⟨t258, A80, H⟩ := H; (try dsimp only at H); have A8 := mk_ A80; clear A80; have H' := mk_ H; clear H; obtain ⟨hcz9_0, hcz9_1, hfz9_0, hfz9_1⟩ := cf2_ BK255
    go_wp2_with (first | ((with_reducible refine gate_callee (f := 52) rfl ?_); refine gL_ (some 10) Try.func52 #[.int .i64 (l0_0.length : Int), .int .i64 1, .int .i64 60] ?_; (with_reducible refine (impl_in.calls (l0_0.length : Int) 1 60 true _ A4.out).mono ?_); rintro e w' ⟨rfl, ⟨nd, rfl⟩⟩; refine ⟨_, rfl, ?_⟩) | (go_at_call 52; (with_reducible refine (impl_in.calls (l0_1.length : Int) 1 6 true _ A6.out).mono ?_); rintro e w' ⟨rfl, ⟨nd, rfl⟩⟩) | (go_at_call 78; (with_reducible refine (impl_each.calls k _ _ l0_1 (l0_1.length : Int) 1 60 t258 _ ?side1 ?side2 A8.out).mono ?_); (case side1 => repeat (first | exact (Kd.C_below HR0_1.out sABelo_6) | (with_reducible refine Kd.C_alloc ?_ _) | (with_reducible refine Kd.C_drewN ?_ _) | (with_reducible refine Kd.C_drew ?_))); (case side2 => exact HC0_1.out); rintro e w' ⟨rfl, ⟨nd, rfl⟩⟩))
    go_meet
    case rel => exact ⟨_, (!t258), eS_, H', ⟨by first | omega | exact Nat.le_refl _⟩, ⟨bT_ BK255⟩, ⟨sABelo_6⟩⟩
   ·replace c7 := Bool.eq_false_iff.mpr c7; subst c7; replace H := ifF_ H; have H' := mk_ H; clear H; obtain ⟨hcz10_0, hcz10_1, hfz10_0, hfz10_1⟩ := cf2_ BK255
    go_wp2_with (first | ((with_reducible refine gate_callee (f := 52) rfl ?_); refine gL_ (some 10) Try.func52 #[.int .i64 (l0_0.length : Int), .int .i64 1, .int .i64 60] ?_; (with_reducible refine (impl_in.calls (l0_0.length : Int) 1 60 true _ A4.out).mono ?_); rintro e w' ⟨rfl, ⟨nd, rfl⟩⟩; refine ⟨_, rfl, ?_⟩) | (go_at_call 52; (with_reducible refine (impl_in.calls (l0_1.length : Int) 1 6 false _ A6.out).mono ?_); rintro e w' ⟨rfl, ⟨nd, rfl⟩⟩))
    go_meet
    case rel => exact ⟨_, (true), eS_, H', ⟨by first | omega | exact Nat.le_refl _⟩, ⟨bT_ BK255⟩, ⟨sABelo_6⟩⟩
  ·replace c5 := Bool.eq_false_iff.mpr c5; subst c5; replace H := ifF_ H; have H' := mk_ H; clear H; obtain ⟨hcz11_0, hcz11_1, hfz11_0, hfz11_1⟩ := cf2_ BK255
   go_wp2_with (first | ((with_reducible refine gate_callee (f := 52) rfl ?_); refine gL_ (some 10) Try.func52 #[.int .i64 (l0_0.length : Int), .int .i64 1, .int .i64 60] ?_; (with_reducible refine (impl_in.calls (l0_0.length : Int) 1 60 false _ A4.out).mono ?_); rintro e w' ⟨rfl, ⟨nd, rfl⟩⟩; refine ⟨_, rfl, ?_⟩))
   go_meet
   case rel => exact ⟨_, (true), eS_, H', ⟨by first | omega | exact Nat.le_refl _⟩, ⟨bT_ BK255⟩, ⟨sABelo_6⟩⟩
 case rest =>
  clear HC2; obtain ⟨kq, x27_1, rfl, HA, HJ1, BK255, HB⟩ := hcut
  cases kq with
  | zero => exact absurd HA.out (by simp [impl_SuiteOk.j0])
  | succ kj1 =>
   have H := HA.out; clear HA; simp only [impl_SuiteOk.j0] at H
   by_cases c12 : x27_1 = true
   ·subst c12; replace H := ifT_ H; obtain rfl := Option.some.inj H
    go_wp2
    go_ret; exact ⟨eW_, sABelo_6⟩
   ·replace c12 := Bool.eq_false_iff.mpr c12; subst c12; replace H := ifF_ H; have H' := mk_ H; clear H; obtain ⟨hcz13_0, hcz13_1, hfz13_0, hfz13_1⟩ := cf2_ BK255
    go_wp2
    go_loopg [31] kj1 (fun kq v31 w' => ∃ (x31_2 : Int), v31 = .int .i64 x31_2 ∧ Aside0 (impl_SuiteOk.l0 kq l0_0 (l0_0.length : Int) x31_2 l0_0 l0_1 = some r) ∧ Aside0 (kq ≤ kj1) ∧ Aside0 (w'.heap[gb255]? = some (.cells #[(.slice A0_0 l0_0.length c0_0), (.slice A0_1 l0_1.length c0_1)] 27 (0, 0))) ∧ Aside0 (Below w.heap.size w w'))
    case atStart => exact ⟨(0), eS_, H', ⟨Nat.le_refl _⟩, ⟨bT_ BK255⟩, ⟨sABelo_6⟩⟩
    case round =>
     clear H'; (try clear c12); (try clear hcz13_0); (try clear hcz13_1); (try clear hfz13_0); (try clear hfz13_1); obtain ⟨x31_2, rfl, HA, HK2, BK255, HB⟩ := hrel
     cases gk with
     | zero => exact absurd HA.out (by simp [impl_SuiteOk.l0])
     | succ k2 =>
      have H := HA.out; clear HA; simp only [impl_SuiteOk.l0] at H
      by_cases c14 : x31_2 < (l0_0.length : Int)
      ·rw [if_pos c14] at H; have c14b0 := decide_eq_true c14; clear c14; obtain ⟨c15, H⟩ := ifS_ H; have c15b0 : decide (0 ≤ x31_2) = true := decide_eq_true c15; clear c15; obtain ⟨c16, H⟩ := ifS_ H; have c16b0 : decide (x31_2 < (l0_0.length : Int)) = true := decide_eq_true c16; clear c16; have H' := mk_ H; clear H; have p259 : 0 ≤ (x31_2 : Int) := dA_; have q259 : x31_2 < (l0_0.length : Int) := dA_; obtain ⟨ad259, A259_0, c259_0, e259, hx259_0, hx259_1, hx259_2, hx259_3, hl259_0, hi259_0⟩ := at_T39 HR0_0.out x31_2 p259 q259
       cases e259
       replace hx259_0 := hX_ HB hx259_0; replace hx259_1 := hX_ HB hx259_1; replace hx259_2 := hX_ HB hx259_2; replace hx259_3 := hX_ HB hx259_3; have HR259_0 := mk_ hi259_0; have HC259_0 := mk_ hl259_0; clear hi259_0 hl259_0; replace p259 := eq_true p259; replace q259 := eq_true q259
       go_wp2_with (first | ((with_reducible refine gate_dst (N := 4) rfl ?_); (try (refine gate_guard (by rfl) ?_; dsimp only)); refine box_event ?hg (N := 4) ?hd (cs := #[.slice none 0 0, .int .i64 0, .int .i64 0, .int .i64 0]) (t := 39) ?hr ?_; (case hd => rfl); (case hg => rfl); (case hr => first | (go_simp; done) | (go_simp; rfl)); intro gb260 hg w17 hbox hb; have BK260 := mk_ (hbox); have GW260 := gE_ HB hg; have GE260 := gE_ HB hg; replace HB := bS_ HB hb; have NB255_260 := nL_ BK255 hg; have NB260_255 := nG_ BK255 hg; replace BK255 := bB_ BK255 hb; clear hb hbox hg; have hnb18 := NB260_255.out; have hnc18 := NB255_260.out; obtain ⟨hcz19_0, hcz19_1, hcz19_2, hcz19_3, hfz19_0, hfz19_1, hfz19_2, hfz19_3⟩ := cf4_ BK260))
       go_loopg [39] k2 (fun kq v39 w' => ∃ (x39_3 : Int), v39 = .int .i64 x39_3 ∧ Aside0 (impl_SuiteOk.l1 kq x31_2 l0_0 (l0_0.length : Int) x31_2 ((rd_T39 l0_0 x31_2).f0) (((rd_T39 l0_0 x31_2).f0).length : Int) x39_3 l0_0 l0_1 ((rd_T39 l0_0 x31_2).f0) ((rd_T39 l0_0 x31_2).f1) ((rd_T39 l0_0 x31_2).f2) ((rd_T39 l0_0 x31_2).f3) = some r) ∧ Aside0 (kq ≤ k2) ∧ Aside0 (w'.heap[gb255]? = some (.cells #[(.slice (some ad259) l0_0.length c0_0), (.slice A0_1 l0_1.length c0_1)] 27 (0, 0))) ∧ Aside0 (w'.heap[gb260]? = some (.cells #[(.slice A259_0 ((rd_T39 l0_0 x31_2).f0).length c259_0), .int .i64 ((rd_T39 l0_0 x31_2).f1), .int .i64 ((rd_T39 l0_0 x31_2).f2), .int .i64 ((rd_T39 l0_0 x31_2).f3)] 39 (0, 0))) ∧ Aside0 (Below w.heap.size w w'))
       case atStart => exact ⟨(0), eS_, H', ⟨Nat.le_refl _⟩, ⟨bF_ BK255 NB255_260⟩, ⟨bP_ BK260⟩, ⟨sABelo_6⟩⟩
       case round =>
        clear H'; (try clear c12); (try clear c14); (try clear c14b0); (try clear c15); (try clear c15b0); (try clear c16); (try clear c16b0); (try clear hcz13_0); (try clear hcz13_1); (try clear hcz19_0); (try clear hcz19_1); (try clear hcz19_2); (try clear hcz19_3); (try clear hfz13_0); (try clear hfz13_1); (try clear hfz19_0); (try clear hfz19_1); (try clear hfz19_2); (try clear hfz19_3); (try clear hx259_0); (try clear hx259_1); (try clear hx259_2); (try clear hx259_3); (try clear p259); (try clear q259); obtain ⟨x39_3, rfl, HA, HK3, BK255, BK260, HB⟩ := hrel
        cases gk with
        | zero => exact absurd HA.out (by simp [impl_SuiteOk.l1])
        | succ k3 =>
         have H := HA.out; clear HA; simp only [impl_SuiteOk.l1] at H
         by_cases c20 : x39_3 < (((rd_T39 l0_0 x31_2).f0).length : Int)
         ·rw [if_pos c20] at H; have c20b0 := decide_eq_true c20; clear c20; obtain ⟨c21, H⟩ := ifS_ H; have c21b0 : decide (0 ≤ x39_3) = true := decide_eq_true c21; clear c21; obtain ⟨c22, H⟩ := ifS_ H; have c22b0 : decide (x39_3 < (((rd_T39 l0_0 x31_2).f0).length : Int)) = true := decide_eq_true c22; clear c22; replace H := Option.bind_eq_some_iff.mp H; obtain ⟨t262, A230, H⟩ := H; (try dsimp only at H); have A23 := mk_ A230; clear A230
          by_cases c24 : t262 = true
          ·subst c24; replace H := ifT_ H
           by_cases c25 : x39_3 > 0
           ·rw [if_pos c25] at H; have c25b0 : decide (0 < x39_3) = true := decide_eq_true c25; clear c25; obtain ⟨ji26, hji26⟩ : ∃ j_ : Int, (wrap64 (x39_3 - 1)) = j_ := ⟨_, rfl⟩
            replace H : (if 0 ≤ (ji26) then (if (ji26) < (((rd_T39 l0_0 x31_2).f0).length : Int) then (if (rd ((rd_T39 l0_0 x31_2).f0) (ji26)) ≥ (rd ((rd_T39 l0_0 x31_2).f0) x39_3) then (some false) else (impl_SuiteOk.l1 k3 x31_2 l0_0 (l0_0.length : Int) x31_2 ((rd_T39 l0_0 x31_2).f0) (((rd_T39 l0_0 x31_2).f0).length : Int) (wrap64 (x39_3 + 1)) l0_0 l0_1 ((rd_T39 l0_0 x31_2).f0) ((rd_T39 l0_0 x31_2).f1) ((rd_T39 l0_0 x31_2).f2) ((rd_T39 l0_0 x31_2).f3))) else (none)) else (none)) = some r := by first | (rw [hji26] at H; exact H) | (simp only [hji26] at H ⊢; exact H)
            (try rw [hji26] at A23); have hji26w : (IntKind.i64.wrap (x39_3 - 1)) = ji26 := (i64_w _).trans hji26; obtain ⟨c27, H⟩ := ifS_ H; have c27b0 : decide (0 ≤ (ji26)) = true := decide_eq_true c27; clear c27; obtain ⟨c28, H⟩ := ifS_ H; have c28b0 : decide ((ji26) < (((rd_T39 l0_0 x31_2).f0).length : Int)) = true := decide_eq_true c28; clear c28
            by_cases c29 : (rd ((rd_T39 l0_0 x31_2).f0) (ji26)) ≥ (rd ((rd_T39 l0_0 x31_2).f0) x39_3)
            ·rw [if_pos c29] at H; have c29b0 : decide ((rd ((rd_T39 l0_0 x31_2).f0) x39_3) ≤ (rd ((rd_T39 l0_0 x31_2).f0) (ji26))) = true := decide_eq_true c29; clear c29; obtain rfl := Option.some.inj H; have p261 : 0 ≤ (x39_3 : Int) := dA_; have q261 : x39_3 < (((rd_T39 l0_0 x31_2).f0).length : Int) := dA_; obtain ⟨ad261, e261, hx261_0⟩ := Kd.at_int HR259_0.out x39_3 p261 q261
             cases e261
             replace hx261_0 := hX_ HB hx261_0; replace p261 := eq_true p261; replace q261 := eq_true q261
             go_wp2_with (first | ((with_reducible refine gate_callee (f := 52) rfl ?_); refine gL_ (some 46) Try.func52 #[.int .i64 (rd ((rd_T39 l0_0 x31_2).f0) x39_3), .int .i64 1, .int .i64 x31_2] ?_; (with_reducible refine (impl_in.calls (rd ((rd_T39 l0_0 x31_2).f0) x39_3) 1 x31_2 true _ A23.out).mono ?_); rintro e w' ⟨rfl, ⟨nd, rfl⟩⟩; refine ⟨_, rfl, ?_⟩; have hnb30 := NB260_255.out; have hnc30 := NB255_260.out; obtain ⟨hcz31_0, hcz31_1, hcz31_2, hcz31_3, hfz31_0, hfz31_1, hfz31_2, hfz31_3⟩ := cf4_ BK260; have p263 : 0 ≤ ((ji26) : Int) := dA_; have q263 : (ji26) < (((rd_T39 l0_0 x31_2).f0).length : Int) := dA_; obtain ⟨ad263, e263, hx263_0⟩ := Kd.at_int HR259_0.out (ji26) p263 q263; obtain rfl : ad261 = ad263 := (by injection e263); replace hx263_0 := hX_ HB hx263_0; replace p263 := eq_true p263; replace q263 := eq_true q263))
             go_ret; exact ⟨by first | rfl | (simp [errW_none, errW_some] <;> rfl) | (simp only [← hji26]; first | rfl | (simp [errW_none, errW_some] <;> rfl)) | (simp [*, errW_none, errW_some] <;> rfl), sABelo_6⟩
            ·rw [if_neg c29] at H; have c29b0 : decide ((rd ((rd_T39 l0_0 x31_2).f0) x39_3) ≤ (rd ((rd_T39 l0_0 x31_2).f0) (ji26))) = false := decide_eq_false c29; clear c29; have H' := mk_ H; clear H; have p261 : 0 ≤ (x39_3 : Int) := dA_; have q261 : x39_3 < (((rd_T39 l0_0 x31_2).f0).length : Int) := dA_; obtain ⟨ad261, e261, hx261_0⟩ := Kd.at_int HR259_0.out x39_3 p261 q261
             cases e261
             replace hx261_0 := hX_ HB hx261_0; replace p261 := eq_true p261; replace q261 := eq_true q261
             go_wp2_with (first | ((with_reducible refine gate_callee (f := 52) rfl ?_); refine gL_ (some 46) Try.func52 #[.int .i64 (rd ((rd_T39 l0_0 x31_2).f0) x39_3), .int .i64 1, .int .i64 x31_2] ?_; (with_reducible refine (impl_in.calls (rd ((rd_T39 l0_0 x31_2).f0) x39_3) 1 x31_2 true _ A23.out).mono ?_); rintro e w' ⟨rfl, ⟨nd, rfl⟩⟩; refine ⟨_, rfl, ?_⟩; have hnb32 := NB260_255.out; have hnc32 := NB255_260.out; obtain ⟨hcz33_0, hcz33_1, hcz33_2, hcz33_3, hfz33_0, hfz33_1, hfz33_2, hfz33_3⟩ := cf4_ BK260; have p263 : 0 ≤ ((ji26) : Int) := dA_; have q263 : (ji26) < (((rd_T39 l0_0 x31_2).f0).length : Int) := dA_; obtain ⟨ad263, e263, hx263_0⟩ := Kd.at_int HR259_0.out (ji26) p263 q263; obtain rfl : ad261 = ad263 := (by injection e263); replace hx263_0 := hX_ HB hx263_0; replace p263 := eq_true p263; replace q263 := eq_true q263))
             go_roundg k3
             case measure => have := HJ1.out; have := HK2.out; have := HK3.out; omega
             case rel => exact ⟨(wrap64 (x39_3 + 1)), eS_, H', ⟨by have := HJ1.out; have := HK2.out; have := HK3.out; omega⟩, ⟨bT_ BK255⟩, ⟨bT_ BK260⟩, ⟨sABelo_6⟩⟩
           ·rw [if_neg c25] at H; have c25b0 : decide (0 < x39_3) = false := decide_eq_false c25; clear c25; have H' := mk_ H; clear H; have p261 : 0 ≤ (x39_3 : Int) := dA_; have q261 : x39_3 < (((rd_T39 l0_0 x31_2).f0).length : Int) := dA_; obtain ⟨ad261, e261, hx261_0⟩ := Kd.at_int HR259_0.out x39_3 p261 q261
            cases e261
            replace hx261_0 := hX_ HB hx261_0; replace p261 := eq_true p261; replace q261 := eq_true q261
            go_wp2_with (first | ((with_reducible refine gate_callee (f := 52) rfl ?_); refine gL_ (some 46) Try.func52 #[.int .i64 (rd ((rd_T39 l0_0 x31_2).f0) x39_3), .int .i64 1, .int .i64 x31_2] ?_; (with_reducible refine (impl_in.calls (rd ((rd_T39 l0_0 x31_2).f0) x39_3) 1 x31_2 true _ A23.out).mono ?_); rintro e w' ⟨rfl, ⟨nd, rfl⟩⟩; refine ⟨_, rfl, ?_⟩))
            go_roundg k3
            case measure => have := HJ1.out; have := HK2.out; have := HK3.out; omega
            case rel => exact ⟨(wrap64 (x39_3 + 1)), eS_, H', ⟨by have := HJ1.out; have := HK2.out; have := HK3.out; omega⟩, ⟨bT_ BK255⟩, ⟨bT_ BK260⟩, ⟨sABelo_6⟩⟩
          ·replace c24 := Bool.eq_false_iff.mpr c24; subst c24; replace H := ifF_ H; obtain rfl := Option.some.inj H; have p261 : 0 ≤ (x39_3 : Int) := dA_; have q261 : x39_3 < (((rd_T39 l0_0 x31_2).f0).length : Int) := dA_; obtain ⟨ad261, e261, hx261_0⟩ := Kd.at_int HR259_0.out x39_3 p261 q261
           cases e261
           replace hx261_0 := hX_ HB hx261_0; replace p261 := eq_true p261; replace q261 := eq_true q261
           go_wp2_with (first | ((with_reducible refine gate_callee (f := 52) rfl ?_); refine gL_ (some 46) Try.func52 #[.int .i64 (rd ((rd_T39 l0_0 x31_2).f0) x39_3), .int .i64 1, .int .i64 x31_2] ?_; (with_reducible refine (impl_in.calls (rd ((rd_T39 l0_0 x31_2).f0) x39_3) 1 x31_2 false _ A23.out).mono ?_); rintro e w' ⟨rfl, ⟨nd, rfl⟩⟩; refine ⟨_, rfl, ?_⟩))
           go_ret; exact ⟨eW_, sABelo_6⟩
         ·rw [if_neg c20] at H; have c20b0 := decide_eq_false c20; clear c20; replace H := Option.bind_eq_some_iff.mp H; obtain ⟨t264, A340, H⟩ := H; (try dsimp only at H); have A34 := mk_ A340; clear A340
          by_cases c35 : t264 = true
          ·subst c35; replace H := ifT_ H; replace H := Option.bind_eq_some_iff.mp H; obtain ⟨t265, A360, H⟩ := H; (try dsimp only at H); have A36 := mk_ A360; clear A360
           by_cases c37 : t265 = true
           ·subst c37; replace H := ifT_ H; replace H := Option.bind_eq_some_iff.mp H; obtain ⟨t266, A380, H⟩ := H; (try dsimp only at H); have A38 := mk_ A380; clear A380
            by_cases c39 : t266 = true
            ·subst c39; replace H := ifT_ H; have H' := mk_ H; clear H; have hnb40 := NB260_255.out; have hnc40 := NB255_260.out; obtain ⟨hcz41_0, hcz41_1, hcz41_2, hcz41_3, hfz41_0, hfz41_1, hfz41_2, hfz41_3⟩ := cf4_ BK260; obtain ⟨hcz42_0, hcz42_1, hfz42_0, hfz42_1⟩ := cf2_ BK255
             go_wp2_with (first | ((with_reducible refine gate_callee (f := 52) rfl ?_); refine gL_ (some 68) Try.func52 #[.int .i64 ((rd_T39 l0_0 x31_2).f1), .int .i64 1, .int .i64 (l0_1.length : Int)] ?_; (with_reducible refine (impl_in.calls ((rd_T39 l0_0 x31_2).f1) 1 (l0_1.length : Int) true _ A34.out).mono ?_); rintro e w' ⟨rfl, ⟨nd, rfl⟩⟩; refine ⟨_, rfl, ?_⟩) | (go_at_call 52; (with_reducible refine (impl_in.calls ((rd_T39 l0_0 x31_2).f2) 0 1000000000000 true _ A36.out).mono ?_); rintro e w' ⟨rfl, ⟨nd, rfl⟩⟩) | (go_at_call 52; (with_reducible refine (impl_in.calls ((rd_T39 l0_0 x31_2).f3) 1 5 true _ A38.out).mono ?_); rintro e w' ⟨rfl, ⟨nd, rfl⟩⟩))
             go_roundg k3
             case measure => have := HJ1.out; have := HK2.out; have := HK3.out; omega
             case rel => exact ⟨(wrap64 (x31_2 + 1)), eS_, H', ⟨by have := HJ1.out; have := HK2.out; have := HK3.out; omega⟩, ⟨bT_ BK255⟩, ⟨sABelo_6⟩⟩
            ·replace c39 := Bool.eq_false_iff.mpr c39; subst c39; replace H := ifF_ H; obtain rfl := Option.some.inj H; have hnb43 := NB260_255.out; have hnc43 := NB255_260.out; obtain ⟨hcz44_0, hcz44_1, hcz44_2, hcz44_3, hfz44_0, hfz44_1, hfz44_2, hfz44_3⟩ := cf4_ BK260; obtain ⟨hcz45_0, hcz45_1, hfz45_0, hfz45_1⟩ := cf2_ BK255
             go_wp2_with (first | ((with_reducible refine gate_callee (f := 52) rfl ?_); refine gL_ (some 68) Try.func52 #[.int .i64 ((rd_T39 l0_0 x31_2).f1), .int .i64 1, .int .i64 (l0_1.length : Int)] ?_; (with_reducible refine (impl_in.calls ((rd_T39 l0_0 x31_2).f1) 1 (l0_1.length : Int) true _ A34.out).mono ?_); rintro e w' ⟨rfl, ⟨nd, rfl⟩⟩; refine ⟨_, rfl, ?_⟩) | (go_at_call 52; (with_reducible refine (impl_in.calls ((rd_T39 l0_0 x31_2).f2) 0 1000000000000 true _ A36.out).mono ?_); rintro e w' ⟨rfl, ⟨nd, rfl⟩⟩) | (go_at_call 52; (with_reducible refine (impl_in.calls ((rd_T39 l0_0 x31_2).f3) 1 5 false _ A38.out).mono ?_); rintro e w' ⟨rfl, ⟨nd, rfl⟩⟩))
             go_ret; exact ⟨eW_, sABelo_6⟩
           ·replace c37 := Bool.eq_false_iff.mpr c37; subst c37; replace H := ifF_ H; obtain rfl := Option.some.inj H; have hnb46 := NB260_255.out; have hnc46 := NB255_260.out; obtain ⟨hcz47_0, hcz47_1, hcz47_2, hcz47_3, hfz47_0, hfz47_1, hfz47_2, hfz47_3⟩ := cf4_ BK260; obtain ⟨hcz48_0, hcz48_1, hfz48_0, hfz48_1⟩ := cf2_ BK255
            go_wp2_with (first | ((with_reducible refine gate_callee (f := 52) rfl ?_); refine gL_ (some 68) Try.func52 #[.int .i64 ((rd_T39 l0_0 x31_2).f1), .int .i64 1, .int .i64 (l0_1.length : Int)] ?_; (with_reducible refine (impl_in.calls ((rd_T39 l0_0 x31_2).f1) 1 (l0_1.length : Int) true _ A34.out).mono ?_); rintro e w' ⟨rfl, ⟨nd, rfl⟩⟩; refine ⟨_, rfl, ?_⟩) | (go_at_call 52; (with_reducible refine (impl_in.calls ((rd_T39 l0_0 x31_2).f2) 0 1000000000000 false _ A36.out).mono ?_); rintro e w' ⟨rfl, ⟨nd, rfl⟩⟩))
            go_ret; exact ⟨eW_, sABelo_6⟩
          ·replace c35 := Bool.eq_false_iff.mpr c35; subst c35; replace H := ifF_ H; obtain rfl := Option.some.inj H; have hnb49 := NB260_255.out; have hnc49 := NB255_260.out; obtain ⟨hcz50_0, hcz50_1, hcz50_2, hcz50_3, hfz50_0, hfz50_1, hfz50_2, hfz50_3⟩ := cf4_ BK260; obtain ⟨hcz51_0, hcz51_1, hfz51_0, hfz51_1⟩ := cf2_ BK255
           go_wp2_with (first | ((with_reducible refine gate_callee (f := 52) rfl ?_); refine gL_ (some 68) Try.func52 #[.int .i64 ((rd_T39 l0_0 x31_2).f1), .int .i64 1, .int .i64 (l0_1.length : Int)] ?_; (with_reducible refine (impl_in.calls ((rd_T39 l0_0 x31_2).f1) 1 (l0_1.length : Int) false _ A34.out).mono ?_); rintro e w' ⟨rfl, ⟨nd, rfl⟩⟩; refine ⟨_, rfl, ?_⟩))
           go_ret; exact ⟨eW_, sABelo_6⟩
      ·rw [if_neg c14] at H; have c14b0 := decide_eq_false c14; clear c14; obtain rfl := Option.some.inj H
       go_wp2
       go_ret; exact ⟨eW_, sABelo_6⟩


/-! ### slices_Clone_int64_int64: function 79 -/
def slices_Clone_int64_int64.f (l0 : List Int) : Option (List Int) := if l0.length < 17592186044416 then some l0 else none
set_option maxHeartbeats 8000000 in
set_option maxRecDepth 100000 in
theorem slices_Clone_int64_int64.calls (A0 : Option Addr) (c0 : Nat) (l0 : List Int) (r : List Int) (w : World) (hr0 : Kd.C (Kd.int .i64) w A0 l0.length l0) (hc0 : l0.length ≤ c0) (h : slices_Clone_int64_int64.f l0 = some r) :
  Calls Try.prog 79 #[.slice A0 l0.length c0] w fun e w' => ∃ v0_ : Value, e = .returned (v0_) ∧ Kd.R (Kd.int .i64) 2 w' w.heap.size (fun _ => True) v0_ r ∧ Below w.heap.size w w' := by
 unfold slices_Clone_int64_int64.f at h
 by_cases c4 : l0.length < 17592186044416
 ·rw [if_pos c4] at h; obtain rfl := Option.some.inj h; clear h; have LM := mk_ c4; clear c4; have HR0 := mk_ hr0; have HC0 := mk_ hc0; clear hr0 hc0; have HB := mk_ (Below.refl w.heap.size w); have hq : ∀ (W : World) (a : Option Addr) (m c : Nat), (binOp .eql 25 (.slice a m c) (.slice none 0 0)).run Try.prog W = .ok (.bool a.isNone) W := fun W a m c => Lib.run_eql_slice_nil W 25 2 a m c 0 0 Try.underlying25
  cases A0 with
  | none =>
   have hl : l0 = [] := by
    rcases Nat.eq_zero_or_pos l0.length with h | h
    ·exact List.eq_nil_of_length_eq_zero h
    ·obtain ⟨ad, e, _⟩ := HR0.out.2.2 h
     cases e
   subst hl; clear HR0 HC0 LM; go_enter Try.func79, Try.ntmps79
   go_wp2
   go_ret; exact ⟨_, rfl, Kd.R_nil _ _ _ _ _, sABelo_6⟩
  | some a0 =>
   obtain ⟨y1, hy1⟩ : ∃ y_ : List Int, y_ = ([] : List Int) := ⟨_, rfl⟩
   obtain ⟨y2, hy2⟩ : ∃ y_ : List Int, y_ = y1 ++ l0 := ⟨_, rfl⟩
   have e2 : y2 = l0 := by rw [hy2, hy1]; rfl
   have LM2 : Aside0 (y1.length + l0.length < 17592186044416) := mk_ (by rw [hy1]; simpa using LM.out); have Ny1 := mk_ hy1; have Ny2 := mk_ hy2; have Ne2 := mk_ e2; clear hy1 hy2 e2; have hg : Calls Try.prog 79 #[.slice (some a0) l0.length c0] w (fun e w' => ∃ v0_ : Value, e = .returned (v0_) ∧ Kd.R (Kd.int .i64) 2 w' w.heap.size (fun _ => True) v0_ y2 ∧ Below w.heap.size w w') := by
    go_enter Try.func79, Try.ntmps79
    go_wp2_with (first | ((with_reducible refine gate_dst (N := 5) rfl ?_); refine Kd.R_lit (Kd.int .i64) _ 2 ?hg (N := 5) ?hd (xs := ([] : List Int)) (inner := []) (ok := fun _ => True) (okp := fun _ => True) ?hr ?hp (fun _ hk => hk) trivial (Below.refl _ _) (Nat.le_refl _) (by simp) ?_; (case hd => rfl); (case hg => rfl); (case hr => first | (go_simp; done) | (go_simp; rfl)); (case hp => exact (Reps.none _ _)); intro v1 w8 ho9 hb hg_ hnew_; clear hg_ hnew_; rw [← Ny1.out] at ho9; have HO1 := rL_ ho9 HB; replace HB := bS_ HB hb; clear hb ho9) | ((with_reducible refine gate_builtin (b := .append) (xs := #[.tmp 5, .tmp 6]) rfl ?_); at_builtin; refine Kd.R_append_rows (Kd.int .i64) (w0 := w) w.heap.size rfl (.tmp 5) (.tmp 6) 25 2 (.int .i64 0) 8 rfl Try.underlying25 info2 rfl (by decide) (by omega) v1 y1 l0 _ _ _ (fun _ => True) (fun _ => False) rfl rfl ?aO ?aR (fun _ _ h => h) (fun _ h => h.elim) ?aF ?aB ?aS ?aL ?_; (case aR => repeat (first | exact (Kd.C_below HR0.out HB.out) | (with_reducible refine Kd.C_alloc ?_ _) | (with_reducible refine Kd.C_drewN ?_ _) | (with_reducible refine Kd.C_drew ?_))); (case aB => exact sABelo_6); (case aF => exact (fun _ _ => trivial)); (case aO => exact (rT_ HO1)); (case aS => exact (below_size sABelo_6)); (case aL => have := LM2.out; omega); intro v2 w10 ho hb hg hat; rw [← Ny2.out] at ho; replace HB := mk_ (hb); have HO2 := mk_ (ho); clear HO1; clear ho hb hg hat; obtain ⟨Ao11, co11, eo11⟩ := Kd.R_slice HO2.out; subst eo11))
    go_ret; exact ⟨_, rfl, by (with_reducible repeat (first | apply Kd.R_alloc | apply Kd.R_drewN | apply Kd.R_drew)); exact HO2.out, sABelo_6⟩
   exact hg.mono fun e w' ⟨v, h1, h2, h3⟩ => ⟨v, h1, by rw [← Ne2.out]; exact h2, h3⟩
 ·rw [if_neg c4] at h; exact absurd h (by simp)

/-! ### impl_copySuite: function 47 -/
def impl_copySuite.l0 : Nat → List (S39) → Int → Int → List (S39) → List Int → Option ((List (S39)) × List Int)
 | 0, _, _, _, _, _ => none
 | k + 1, x11, x12, x13, x273000, x273001 => if x13 < x12 then (if 0 ≤ x13 then (if x13 < (x11.length : Int) then ((slices_Clone_int64_int64.f ((rd_T39 x11 x13).f0)).bind fun t275 => (if x273000.length < 2932031007402 then (impl_copySuite.l0 k x11 x12 (wrap64 (x13 + 1)) (x273000 ++ [(⟨t275, (rd_T39 x11 x13).f1, (rd_T39 x11 x13).f2, (rd_T39 x11 x13).f3⟩ : S39)]) x273001) else (none))) else (none)) else (none)) else (some (x273000, x273001))
def impl_copySuite.f (k : Nat) (l0_0 : List (S39)) (l0_1 : List Int) : Option ((List (S39)) × List Int) := (slices_Clone_int64_int64.f l0_1).bind fun t269 => (impl_copySuite.l0 k l0_0 (l0_0.length : Int) 0 ([] : List (S39)) t269)
theorem impl_copySuite.mono_l : ∀ k, (∀ y0 y1 y2 y3 y4, LeO (impl_copySuite.l0 k y0 y1 y2 y3 y4) (impl_copySuite.l0 (k + 1) y0 y1 y2 y3 y4))
 | 0 => fun _ _ _ _ _ r h => by simp [impl_copySuite.l0] at h
 | k + 1 => by
  have ih0 := impl_copySuite.mono_l k
  ·intro y0 y1 y2 y3 y4; unfold impl_copySuite.l0
   repeat' first
   | (with_reducible exact ih0 _ _ _ _ _)
   | (with_reducible exact LeO.refl _)
   | (with_reducible exact LeO.none _)
   | (with_reducible refine LeO.ite ?_ ?_)
   | (with_reducible refine LeO.bind ?_ (fun _ => ?_))
   | exact ih0 _ _ _ _ _
   | exact LeO.none _
   | refine LeO.ite ?_ ?_
   | refine LeO.bind ?_ (fun _ => ?_)
theorem impl_copySuite.mono : ∀ a0 a1 k, LeO (impl_copySuite.f k a0 a1) (impl_copySuite.f (k + 1) a0 a1) := by
 intro a0 a1 k; have ih0 := impl_copySuite.mono_l k; unfold impl_copySuite.f
 repeat' first
   | (with_reducible exact ih0 _ _ _ _ _)
   | (with_reducible exact LeO.refl _)
   | (with_reducible exact LeO.none _)
   | (with_reducible refine LeO.ite ?_ ?_)
   | (with_reducible refine LeO.bind ?_ (fun _ => ?_))
   | exact ih0 _ _ _ _ _
   | exact LeO.none _
   | refine LeO.ite ?_ ?_
   | refine LeO.bind ?_ (fun _ => ?_)
set_option maxHeartbeats 8000000 in
set_option maxRecDepth 100000 in
theorem impl_copySuite.calls (k : Nat) (A0_0 : Option Addr) (c0_0 : Nat) (l0_0 : List (S39)) (A0_1 : Option Addr) (c0_1 : Nat) (l0_1 : List Int) (r1 : List (S39)) (r2 : List Int) (w : World) (hr0_0 : Kd.C k39 w A0_0 l0_0.length l0_0) (hc0_0 : l0_0.length ≤ c0_0) (hr0_1 : Kd.C (Kd.int .i64) w A0_1 l0_1.length l0_1) (hc0_1 : l0_1.length ≤ c0_1) (h : impl_copySuite.f k l0_0 l0_1 = some (r1, r2)) :
  Calls Try.prog 47 #[.agg #[.slice A0_0 l0_0.length c0_0, .slice A0_1 l0_1.length c0_1]] w fun e w' => ∃ v0_ v1_ : Value, e = .returned (.agg #[v0_, v1_]) ∧ Kd.S k39 39 w' w.heap.size (fun k_ => some k_ ≠ (v1_ : Value).ownBlock) v0_ r1 ∧ Kd.R (Kd.int .i64) 2 w' w.heap.size (fun _ => True) v1_ r2 ∧ Below w.heap.size w w' := by
 have hu27 := Try.underlying27; have hu39 := Try.underlying39; have HR0_0 := mk_ hr0_0; have HC0_0 := mk_ hc0_0; clear hr0_0 hc0_0; have HR0_1 := mk_ hr0_1; have HC0_1 := mk_ hc0_1; clear hr0_1 hc0_1; have HB := mk_ (Below.refl w.heap.size w); have H : ((slices_Clone_int64_int64.f l0_1).bind fun t269 => (impl_copySuite.l0 k l0_0 (l0_0.length : Int) 0 ([] : List (S39)) t269)) = some (r1, r2) := h; clear h; replace H := Option.bind_eq_some_iff.mp H; obtain ⟨t269, A20, H⟩ := H; (try dsimp only at H); have A2 := mk_ A20; clear A20; have H' := mk_ H; clear H; go_enter Try.func47, Try.ntmps47
 go_wp2_with (first | ((with_reducible refine gate_dst (N := 1) rfl ?_); refine box_event ?hg (N := 1) ?hd (cs := #[.slice A0_0 l0_0.length c0_0, .slice A0_1 l0_1.length c0_1]) (t := 27) ?hr ?_; (case hd => rfl); (case hg => rfl); (case hr => first | (go_simp; done) | (go_simp; rfl)); intro gb267 hg w3 hbox hb; have BK267 := mk_ (hbox); have GW267 := gE_ HB hg; have GE267 := gE_ HB hg; replace HB := bS_ HB hb; clear hb hbox hg) | ((with_reducible refine gate_dst (N := 2) rfl ?_); refine box_event ?hg (N := 2) ?hd (cs := #[.slice none 0 0, .slice none 0 0]) (t := 27) ?hr ?_; (case hd => rfl); (case hg => rfl); (case hr => first | (go_simp; done) | (go_simp; rfl)); intro gb268 hg w4 hbox hb; have BK268 := mk_ (hbox); have GW268 := gE_ HB hg; have GE268 := gE_ HB hg; replace HB := bS_ HB hb; have NB267_268 := nL_ BK267 hg; have NB268_267 := nG_ BK267 hg; replace BK267 := bB_ BK267 hb; clear hb hbox hg; have hnb5 := NB267_268.out; have hnc5 := NB268_267.out; obtain ⟨hcz6_0, hcz6_1, hfz6_0, hfz6_1⟩ := cf2_ BK267) | ((with_reducible refine gate_callee (f := 79) rfl ?_); refine gL_ (some 8) Try.func79 #[.slice A0_1 l0_1.length c0_1] ?_; (with_reducible refine (slices_Clone_int64_int64.calls _ _ l0_1 t269 _ ?side1 ?side2 A2.out).mono ?_); (case side1 => exact cB_ HR0_1 HB); (case side2 => exact HC0_1.out); rintro e w7 ⟨v270, rfl, ho0, hb⟩; refine ⟨_, rfl, ?_⟩; have HO271 := rL_ ho0 HB; replace BK267 := bB_ BK267 hb; replace BK268 := bB_ BK268 hb; replace HB := bS_ HB hb; (try clear hb); (try clear ho0); obtain ⟨Ao8, co8, eo8⟩ := Kd.R_slice HO271.out; subst eo8) | ((with_reducible refine gate_dst (N := 3) rfl ?_); refine box_event ?hg (N := 3) ?hd (cs := #[.slice none 0 0, .slice none 0 0]) (t := 27) ?hr ?_; (case hd => rfl); (case hg => rfl); (case hr => first | (go_simp; done) | (go_simp; rfl)); intro gb272 hg w9 hbox hb; replace HO271 := rB_ HO271 hb; have BK272 := mk_ (hbox); have GW272 := gE_ HB hg; have GE272 := gE_ HB hg; replace HB := bS_ HB hb; have NB267_272 := nL_ BK267 hg; have NB272_267 := nG_ BK267 hg; replace BK267 := bB_ BK267 hb; have NB268_272 := nL_ BK268 hg; have NB272_268 := nG_ BK268 hg; replace BK268 := bB_ BK268 hb; clear hb hbox hg; have hnb10 := NB272_267.out; have hnc10 := NB267_272.out; have hnb11 := NB272_268.out; have hnc11 := NB268_272.out; obtain ⟨hcz12_0, hcz12_1, hfz12_0, hfz12_1⟩ := cf2_ BK272; obtain ⟨hcz13_0, hcz13_1, hfz13_0, hfz13_1⟩ := cf2_ BK267))
 go_loopg [13] k (fun kq v13 w' => ∃ (x13_1 : Int) (x273000_1 : List (S39)) (u273000 : Value), v13 = .int .i64 x13_1 ∧ Aside0 (impl_copySuite.l0 kq l0_0 (l0_0.length : Int) x13_1 x273000_1 t269 = some (r1, r2)) ∧ Aside0 (kq ≤ k) ∧ Aside0 (Kd.S k39 39 w' w.heap.size (fun k_ => some k_ ≠ ((.slice Ao8 t269.length co8) : Value).ownBlock) u273000 x273000_1) ∧ Aside0 (Kd.R (Kd.int .i64) 2 w' w.heap.size (fun _ => True) (.slice Ao8 t269.length co8) t269) ∧ Aside0 (w'.heap[gb267]? = some (.cells #[(.slice A0_0 l0_0.length c0_0), (.slice A0_1 l0_1.length c0_1)] 27 (0, 0))) ∧ Aside0 (w'.heap[gb268]? = some (.cells #[(.slice none 0 0), (.slice none 0 0)] 27 (0, 0))) ∧ Aside0 (w'.heap[gb272]? = some (.cells #[u273000, (.slice Ao8 t269.length co8)] 27 (0, 0))) ∧ Aside0 (Below w.heap.size w w'))
 case atStart => exact ⟨(0), (([] : List (S39))), (.slice none 0 0), eS_, H', ⟨Nat.le_refl _⟩, ⟨by first | exact Kd.S_nil _ _ _ _ _ | exact Kd.N_nil _ _ _ _ _ | exact Kd.V_nil _ _ _ _ _ | exact Kd.Q_nil _ _ _ _ _ | exact Kd.R_nil _ _ _ _ _⟩, ⟨rFM_ HO271 BK272⟩, ⟨bF_ BK267 NB267_272⟩, ⟨bF_ BK268 NB268_272⟩, ⟨bP_ BK272⟩, ⟨sABelo_6⟩⟩
 case round =>
  clear H'; (try clear hcz12_0); (try clear hcz12_1); (try clear hcz13_0); (try clear hcz13_1); (try clear hcz6_0); (try clear hcz6_1); (try clear hfz12_0); (try clear hfz12_1); (try clear hfz13_0); (try clear hfz13_1); (try clear hfz6_0); (try clear hfz6_1); obtain ⟨x13_1, x273000_1, u273000, rfl, HA, HK1, HO_273000, HO_273001, BK267, BK268, BK272, HB⟩ := hrel
  cases gk with
  | zero => exact absurd HA.out (by simp [impl_copySuite.l0])
  | succ k1 =>
   have H := HA.out; clear HA; simp only [impl_copySuite.l0] at H
   by_cases c14 : x13_1 < (l0_0.length : Int)
   ·rw [if_pos c14] at H; have c14b0 := decide_eq_true c14; clear c14; obtain ⟨c15, H⟩ := ifS_ H; have c15b0 : decide (0 ≤ x13_1) = true := decide_eq_true c15; clear c15; obtain ⟨c16, H⟩ := ifS_ H; have c16b0 : decide (x13_1 < (l0_0.length : Int)) = true := decide_eq_true c16; clear c16; replace H := Option.bind_eq_some_iff.mp H; obtain ⟨t275, A170, H⟩ := H; (try dsimp only at H); have A17 := mk_ A170; clear A170; obtain ⟨c18, H⟩ := ifS_ H; have LMc18 := mk_ c18; clear c18; obtain ⟨y278, hy278⟩ : ∃ y_ : List (S39), y_ = (x273000_1 ++ [(⟨t275, (rd_T39 l0_0 x13_1).f1, (rd_T39 l0_0 x13_1).f2, (rd_T39 l0_0 x13_1).f3⟩ : S39)]) := ⟨_, rfl⟩
    replace H : (impl_copySuite.l0 k1 l0_0 (l0_0.length : Int) (wrap64 (x13_1 + 1)) y278 t269) = some (r1, r2) := by first | (rw [hy278]; with_reducible exact H) | (have H2_ := (Option.bind_some _ _).symm.trans H; rw [hy278]; with_reducible exact H2_) | (have H2_ := (Option.bind_some _ _).symm.trans H; with_reducible exact H2_) | with_reducible exact H | (rw [hy278]; exact H) | exact H
    have Ny278 := mk_ hy278; clear hy278; have H' := mk_ H; clear H; have p273 : 0 ≤ (x13_1 : Int) := dA_; have q273 : x13_1 < (l0_0.length : Int) := dA_; obtain ⟨ad273, A273_0, c273_0, e273, hx273_0, hx273_1, hx273_2, hx273_3, hl273_0, hi273_0⟩ := at_T39 HR0_0.out x13_1 p273 q273
    cases e273
    replace hx273_0 := hX_ HB hx273_0; replace hx273_1 := hX_ HB hx273_1; replace hx273_2 := hX_ HB hx273_2; replace hx273_3 := hX_ HB hx273_3; have HR273_0 := mk_ hi273_0; have HC273_0 := mk_ hl273_0; clear hi273_0 hl273_0; replace p273 := eq_true p273; replace q273 := eq_true q273
    go_wp2_with (first | ((with_reducible refine gate_dst (N := 5) rfl ?_); refine box_event ?hg (N := 5) ?hd (cs := #[.slice none 0 0, .int .i64 0, .int .i64 0, .int .i64 0]) (t := 39) ?hr ?_; (case hd => rfl); (case hg => rfl); (case hr => first | (go_simp; done) | (go_simp; rfl)); intro gb274 hg w19 hbox hb; replace HO_273000 := mk_ (Kd.S_below (Kd.S_elderB (sT_ HO_273000) gb274 (Nat.le_of_eq hg.symm)) hb); replace HO_273001 := rB_ HO_273001 hb; have BK274 := mk_ (hbox); have GW274 := gE_ HB hg; have GE274 := gE_ HB hg; replace HB := bS_ HB hb; have NB267_274 := nL_ BK267 hg; have NB274_267 := nG_ BK267 hg; replace BK267 := bB_ BK267 hb; have NB268_274 := nL_ BK268 hg; have NB274_268 := nG_ BK268 hg; replace BK268 := bB_ BK268 hb; have NB272_274 := nL_ BK272 hg; have NB274_272 := nG_ BK272 hg; replace BK272 := bB_ BK272 hb; clear hb hbox hg; have hnb20 := NB274_267.out; have hnc20 := NB267_274.out; have hnb21 := NB274_268.out; have hnc21 := NB268_274.out; have hnb22 := NB274_272.out; have hnc22 := NB272_274.out; obtain ⟨hcz23_0, hcz23_1, hcz23_2, hcz23_3, hfz23_0, hfz23_1, hfz23_2, hfz23_3⟩ := cf4_ BK274) | ((with_reducible refine gate_callee (f := 79) rfl ?_); refine gL_ (some 19) Try.func79 #[.slice A273_0 ((rd_T39 l0_0 x13_1).f0).length c273_0] ?_; (with_reducible refine (slices_Clone_int64_int64.calls _ _ ((rd_T39 l0_0 x13_1).f0) t275 _ ?side1 ?side2 A17.out).mono ?_); (case side1 => exact Kd.C_below HR273_0.out sABelo_6); (case side2 => exact HC273_0.out); rintro e w24 ⟨v276, rfl, ho0, hb⟩; refine ⟨_, rfl, ?_⟩; replace HO_273000 := mk_ (Kd.S_elder' (sFN0_ HO_273000) (Kd.R_base ho0) hb); have HO277 := mk_ (Kd.R_lower (rN_ ho0 HO_273001) (below_size sABelo_6)); replace HO_273001 := rEF_ HO_273001 BK274 ho0 hb; replace BK267 := bBF_ BK267 NB267_274 hb; replace BK268 := bBF_ BK268 NB268_274 hb; replace BK272 := bBF_ BK272 NB272_274 hb; replace BK274 := mk_ (blk_below (g := gb274) (o := .cells #[.slice A273_0 ((rd_T39 l0_0 x13_1).f0).length c273_0, .int .i64 ((rd_T39 l0_0 x13_1).f1), .int .i64 ((rd_T39 l0_0 x13_1).f2), .int .i64 ((rd_T39 l0_0 x13_1).f3)] 39 (0, 0)) (bP_ BK274) hb); replace HB := mk_ (below_step sABelo_6 hb); (try clear hb); (try clear ho0); obtain ⟨Ao25, co25, eo25⟩ := Kd.R_slice HO277.out; subst eo25; obtain ⟨hcz26_0, hcz26_1, hcz26_2, hcz26_3, hfz26_0, hfz26_1, hfz26_2, hfz26_3⟩ := cf4_ BK274) | ((with_reducible refine gate_store (t := 25) (p := 20) rfl ?_); refine store_event (t := 25) (p := 20) (v := ?vo_w27) (w1 := (w24.setCell ⟨gb274, 0, none⟩ (.slice Ao25 t275.length co25))) ?hg ?ho ?hn ?hr ?_; (case ho => rfl); (case hg => rfl); (case hn => rfl); (case hr => first | (go_simp; done) | (go_simp; rfl)); intro w27 hw; have n0_ : Aside0 (Kd.S k39 39 w27 w.heap.size (fun k_ => some k_ ≠ (.slice Ao8 t269.length co8 : Value).ownBlock ∧ some k_ ≠ (.slice Ao25 t275.length co25 : Value).ownBlock ∧ k_ ≠ gb274) u273000 x273000_1) := ⟨(by rw [hw]; exact (by (with_reducible repeat (first | apply Kd.S_alloc | apply Kd.S_drewN | apply Kd.S_drew)); exact Kd.S_mono (Kd.S_far (p := ⟨gb274, 0, none⟩) (Kd.S_mono HO_273000.out (fun k_ hk => (⟨hk, hk.1.2⟩ : _ ∧ k_ ≠ gb274))) (fun _ hk => hk.2) (.slice Ao25 t275.length co25)) (fun _ hk => ⟨hk.1.1.1, ⟨hk.1.2, hk.1.1.2⟩⟩)))⟩; have n1_ : Aside0 (Kd.R (Kd.int .i64) 2 w27 w.heap.size (fun k_ => some k_ ≠ (.slice Ao25 t275.length co25 : Value).ownBlock) (.slice Ao8 t269.length co8) t269) := ⟨(by rw [hw]; exact (by (with_reducible repeat (first | apply Kd.R_alloc | apply Kd.R_drewN | apply Kd.R_drew)); exact Kd.R_mono (Kd.R_far (p := ⟨gb274, 0, none⟩) (Kd.R_types HO_273001.out BK274.out (by decide)) (fun _ hk => hk.2) (.slice Ao25 t275.length co25)) (fun _ hk => hk.1.2)))⟩; have n2_ : Aside0 (Kd.R (Kd.int .i64) 2 w27 w.heap.size (fun k_ => some k_ ≠ (.slice Ao8 t269.length co8 : Value).ownBlock) (.slice Ao25 t275.length co25) t275) := ⟨(by rw [hw]; exact (by (with_reducible repeat (first | apply Kd.R_alloc | apply Kd.R_drewN | apply Kd.R_drew)); exact Kd.R_mono (Kd.R_far (p := ⟨gb274, 0, none⟩) (Kd.R_types HO277.out BK274.out (by decide)) (fun _ hk => hk.2) (.slice Ao25 t275.length co25)) (fun _ hk => hk.1.2)))⟩; have n3_ : Aside0 (w27.heap[gb267]? = some (.cells #[.slice (some ad273) l0_0.length c0_0, .slice A0_1 l0_1.length c0_1] 27 (0, 0))) := ⟨(by rw [hw]; exact (bF_ BK267 NB267_274))⟩; have n4_ : Aside0 (w27.heap[gb268]? = some (.cells #[.slice none 0 0, .slice none 0 0] 27 (0, 0))) := ⟨(by rw [hw]; exact (bF_ BK268 NB268_274))⟩; have n5_ : Aside0 (w27.heap[gb272]? = some (.cells #[u273000, .slice Ao8 t269.length co8] 27 (0, 0))) := ⟨(by rw [hw]; exact (bF_ BK272 NB272_274))⟩; have n6_ : Aside0 (w27.heap[gb274]? = some (.cells #[.slice Ao25 t275.length co25, .int .i64 ((rd_T39 l0_0 x13_1).f1), .int .i64 ((rd_T39 l0_0 x13_1).f2), .int .i64 ((rd_T39 l0_0 x13_1).f3)] 39 (0, 0))) := ⟨(by rw [hw]; exact (bP_ BK274))⟩; have n7_ : Aside0 (Below w.heap.size w w27) := ⟨(by rw [hw]; exact sABelo_6)⟩; clear hw; clear HO_273000; clear HO_273001; clear HO277; clear BK267; clear BK268; clear BK272; clear BK274; clear HB; have HO_273000 := n0_; have HO_273001 := n1_; have HO277 := n2_; have BK267 := n3_; have BK268 := n4_; have BK272 := n5_; have BK274 := n6_; have HB := n7_; clear n0_ n1_ n2_ n3_ n4_ n5_ n6_ n7_; have hnb28 := NB272_267.out; have hnc28 := NB267_272.out; have hnb29 := NB272_268.out; have hnc29 := NB268_272.out; obtain ⟨hcz30_0, hcz30_1, hfz30_0, hfz30_1⟩ := cf2_ BK272; obtain ⟨hcz31_0, hcz31_1, hcz31_2, hcz31_3, hfz31_0, hfz31_1, hfz31_2, hfz31_3⟩ := cf4_ BK274) | ((with_reducible refine gate_builtin (b := .append) (xs := #[.tmp 22, .tmp 24]) rfl ?_); at_builtin; refine Kd.S_append k39 (w0 := w) w.heap.size rfl (.tmp 22) (.tmp 24) 24 39 (.agg #[(.slice none 0 0), (.int .i64 0), (.int .i64 0), (.int .i64 0)]) 48 rfl Try.underlying24 info39 rfl (by decide) (by omega) u273000 x273000_1 (⟨t275, (rd_T39 l0_0 x13_1).f1, (rd_T39 l0_0 x13_1).f2, (rd_T39 l0_0 x13_1).f3⟩ : S39) [.slice Ao25 t275.length co25, .int .i64 ((rd_T39 l0_0 x13_1).f1), .int .i64 ((rd_T39 l0_0 x13_1).f2), .int .i64 ((rd_T39 l0_0 x13_1).f3)] (fun k_ => some k_ ≠ (.slice Ao8 t269.length co8 : Value).ownBlock ∧ k_ ≠ gb274) (fun k_ => some k_ = (.slice Ao25 t275.length co25 : Value).ownBlock) rfl rfl ?aP (fun k_ hk_ => ((Kd.R_mono (ok' := fun k_ => ((fun k_ => some k_ ≠ (.slice Ao8 t269.length co8 : Value).ownBlock ∧ k_ ≠ gb274)) k_ ∧ some k_ ≠ (u273000 : Value).ownBlock) (Kd.R_types (Kd.R_apart' (HO277.out) (Kd.S_typed HO_273000.out) (by decide)) BK274.out (by decide)) (fun k_ hk => ⟨⟨hk.1.1, hk.2⟩, hk.1.2⟩))).1 k_ hk_.symm) ?aF ?aO ?aB ?aS ?aL ?_; (case aP => exact k39_mkM _ _ _ (⟨t275, (rd_T39 l0_0 x13_1).f1, (rd_T39 l0_0 x13_1).f2, (rd_T39 l0_0 x13_1).f3⟩ : S39) (Kd.R_mono (Kd.R_tight rfl (Kd.R_mono (ok' := fun k_ => ((fun k_ => some k_ ≠ (.slice Ao8 t269.length co8 : Value).ownBlock ∧ k_ ≠ gb274)) k_ ∧ some k_ ≠ (u273000 : Value).ownBlock) (Kd.R_types (Kd.R_apart' (HO277.out) (Kd.S_typed HO_273000.out) (by decide)) BK274.out (by decide)) (fun k_ hk => ⟨⟨hk.1.1, hk.2⟩, hk.1.2⟩))) (fun _ h_ => h_))); (case aB => exact sABelo_6); (case aF => exact (fun k_ hk => ⟨Kd.fresh' (rLt_ HO_273001) k_ hk, Kd.freshB (g := gb274) (o := .cells #[.slice Ao25 t275.length co25, .int .i64 ((rd_T39 l0_0 x13_1).f1), .int .i64 ((rd_T39 l0_0 x13_1).f2), .int .i64 ((rd_T39 l0_0 x13_1).f3)] 39 (0, 0)) (bT_ BK274) k_ hk⟩)); (case aO => exact (by (with_reducible repeat (first | apply Kd.S_alloc | apply Kd.S_drewN | apply Kd.S_drew)); exact Kd.S_mono HO_273000.out (fun k_ hk => ⟨⟨hk.1, hk.2.2⟩, fun e_ => hk.2.1 e_⟩))); (case aS => exact (below_size sABelo_6)); (case aL => have := LMc18.out; omega); intro v279 w32 ho hb hg hat; rw [← Ny278.out] at ho; replace HO_273001 := mk_ (Kd.R_over' (rT_ HO_273001) (Kd.S_typed (sT_ HO_273000)) (by decide) hg); replace BK267 := mk_ (blk_grown (bT_ BK267) hg (Kd.S_ne HO_273000.out BK267.out (by decide))); replace BK268 := mk_ (blk_grown (bT_ BK268) hg (Kd.S_ne HO_273000.out BK268.out (by decide))); replace BK272 := mk_ (blk_grown (bT_ BK272) hg (Kd.S_ne HO_273000.out BK272.out (by decide))); replace BK274 := mk_ (blk_grown (bT_ BK274) hg (Kd.S_away HO_273000.out (fun _ hk => hk.2.2))); replace HB := mk_ (hb); have HO280 := mk_ (ho); clear HO_273000 HO277; clear ho hb hg hat; obtain ⟨Ao33, co33, eo33⟩ := Kd.S_slice HO280.out; subst eo33; obtain ⟨hcz34_0, hcz34_1, hfz34_0, hfz34_1⟩ := cf2_ BK272))
    go_roundg k1
    case measure => have := HK1.out; omega
    case rel => exact ⟨(wrap64 (x13_1 + 1)), (y278), (.slice Ao33 y278.length co33), eS_, H', ⟨by have := HK1.out; omega⟩, ⟨sFM_ HO280 BK272⟩, ⟨rFM_ HO_273001 BK272⟩, ⟨bF_ BK267 NB267_272⟩, ⟨bF_ BK268 NB268_272⟩, ⟨bP_ BK272⟩, ⟨sABelo_6⟩⟩
   ·rw [if_neg c14] at H; have c14b0 := decide_eq_false c14; clear c14; simp only [Option.some.injEq, Prod.mk.injEq] at H; obtain ⟨rfl, rfl⟩ := H; have hnb35 := NB272_267.out; have hnc35 := NB267_272.out; have hnb36 := NB272_268.out; have hnc36 := NB268_272.out; obtain ⟨hcz37_0, hcz37_1, hfz37_0, hfz37_1⟩ := cf2_ BK272; obtain ⟨Ao38, co38, eo38⟩ := Kd.S_slice HO_273000.out; subst eo38; have hnb39 := NB268_267.out; have hnc39 := NB267_268.out; obtain ⟨hcz40_0, hcz40_1, hfz40_0, hfz40_1⟩ := cf2_ BK268
    go_wp2
    refine bodyPost_ret (results_cell_row rfl _ _ gb268 27 #[.slice Ao38 x273000_1.length co38, .slice Ao8 t269.length co8] (0, 0) _ rfl (bP_ BK268) Try.underlying27 rfl (by kernel_rfl)) rfl ?_; exact ⟨_, _, eW_, by (with_reducible repeat (first | apply Kd.S_alloc | apply Kd.S_drewN | apply Kd.S_drew)); exact Kd.S_mono (Kd.S_far (p := ⟨gb268, 1, none⟩) (Kd.S_far (p := ⟨gb268, 0, none⟩) (Kd.S_types HO_273000.out BK268.out (by decide)) (fun _ hk => hk.2) (.slice Ao38 x273000_1.length co38)) (fun _ hk => hk.2) (.slice Ao8 t269.length co8)) (fun _ hk => hk.1), by (with_reducible repeat (first | apply Kd.R_alloc | apply Kd.R_drewN | apply Kd.R_drew)); exact Kd.R_mono (Kd.R_far (p := ⟨gb268, 1, none⟩) (Kd.R_far (p := ⟨gb268, 0, none⟩) (Kd.R_types HO_273001.out BK268.out (by decide)) (fun _ hk => hk.2) (.slice Ao38 x273000_1.length co38)) (fun _ hk => hk.2) (.slice Ao8 t269.length co8)) (fun _ hk => trivial), sABelo_6⟩

end Go.Proofs.Ytjoghfehmhapbaa.QFnSuiteOnce
