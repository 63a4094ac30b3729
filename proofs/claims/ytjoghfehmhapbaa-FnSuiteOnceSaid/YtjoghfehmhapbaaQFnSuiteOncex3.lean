-- Written by a program of this session out of the printer's texts and contracts of its own.
import Derived.Test.YtjoghfehmhapbaaSq
import Derived.Test.YtjoghfehmhapbaaQFnSuiteOncex0
import Derived.Test.YtjoghfehmhapbaaQFnSuiteOncex1
import Derived.Test.YtjoghfehmhapbaaQFnSuiteOncex2
namespace Go.Proofs.Ytjoghfehmhapbaa.QFnSuiteOnce
open Go.RowKit Go.Proofs.YtjoghfehmhapbaaW.PrintWords Go.Proofs.YtjoghfehmhapbaaW.PrintLast Go.Proofs.YtjoghfehmhapbaaW.PrintMore Go.Proofs.Ytjoghfehmhapbaa.Sq
attribute [local go_sem] max2_int min2_int max_two min_two max_three min_three max_four min_four   -- for this text's walks alone
set_option linter.unusedVariables false
set_option linter.unusedSimpArgs false
theorem sABelo_3 {b : Nat} {w W : World} (h : Below b w W := by repeat (first | (with_reducible first | exact Aside0.out (by assumption) | apply below_alloc | apply pw_below_drewN | apply below_drew1 | refine below_set ?_ (Aside0.out (by assumption)) | refine below_set ?_ (IsS99.ge (Aside0.out (by assumption)))) | exact Aside0.out (by assumption))) : Below b w W := h

/-! ### spec_l1Open: function 43 -/
def spec_l1Open.f (l0 : List Int) : Option (List Int × Int) := some (l0, 0)
set_option maxHeartbeats 8000000 in
set_option maxRecDepth 100000 in
theorem spec_l1Open.calls (A0 : Option Addr) (c0 : Nat) (l0 : List Int) (r1 : List Int) (r2 : Int) (w0 w : World) (hB : Below w0.heap.size w0 w) (hr0 : Kd.C (Kd.int .u8) w0 A0 l0.length l0) (hc0 : l0.length ≤ c0) (h : spec_l1Open.f l0 = some (r1, r2)) :
  Calls Try.prog 43 #[.slice A0 l0.length c0] w fun e w' => ∃ g_ : Nat, e = .returned (.pointer (some ⟨g_, 0, none⟩)) ∧ IsS99 w0 w' g_ r1 r2 ∧ Below w0.heap.size w0 w' ∧ Below w.heap.size w w' := by
 have hu99 := Try.underlying99; have HR0 := mk_ hr0; have HC0 := mk_ hc0; clear hr0 hc0; have HBW := mk_ (Below.refl w.heap.size w); have HW0 := mk_ hB.size; have HB := mk_ hB; clear hB; have H : (some (l0, 0)) = some (r1, r2) := h; clear h; simp only [Option.some.injEq, Prod.mk.injEq] at H; obtain ⟨rfl, rfl⟩ := H; go_enter Try.func43, Try.ntmps43
 go_wp2_with (first | ((with_reducible refine gate_dst (N := 5) rfl ?_); refine box_event ?hg (N := 5) ?hd (cs := #[.slice A0 l0.length c0, .int .i64 0]) (t := 99) ?hr ?_; (case hd => rfl); (case hg => rfl); (case hr => first | (go_simp; done) | (go_simp; rfl)); intro gb196 hg w2 hbox hb; replace HB := bS_ HB hb; have BK196 := mk_ (hbox); have GW196 := mk_ ((by rw [hg]; exact (below_size sABelo_3) : w.heap.size ≤ gb196)); have GE196 := mk_ ((Nat.le_trans HW0.out (by rw [hg]; exact (below_size sABelo_3) : w.heap.size ≤ gb196) : w0.heap.size ≤ gb196)); replace HBW := mk_ (below_step HBW.out hb); clear hb hbox hg))
 go_ret; exact ⟨_, rfl, (show IsS99 w0 _ gb196 l0 0 from ⟨_, _, by exact bT_ BK196, GE196.out, HR0.out⟩), sABelo_3, sABelo_3⟩

/-! ### spec_DrawNewRun: function 13 -/
def spec_DrawNewRun.f (k : Nat) (l0 : List Int) : Option ((List (S39)) × List Int) := (spec_l1Open.f l0).bind fun bt198 => ((spec_l24DrawSuite.f k bt198.1 bt198.2).bind fun bt201 => (some (bt201.1, bt201.2.1)))
theorem spec_DrawNewRun.mono : ∀ a0 k, LeO (spec_DrawNewRun.f k a0) (spec_DrawNewRun.f (k + 1) a0) := by
 intro a0 k; unfold spec_DrawNewRun.f
 repeat' first
   | (with_reducible exact spec_l24DrawSuite.mono _ _ _)
   | (with_reducible exact LeO.refl _)
   | (with_reducible exact LeO.none _)
   | (with_reducible refine LeO.ite ?_ ?_)
   | (with_reducible refine LeO.bind ?_ (fun _ => ?_))
   | exact LeO.none _
   | refine LeO.ite ?_ ?_
   | refine LeO.bind ?_ (fun _ => ?_)
set_option maxHeartbeats 8000000 in
set_option maxRecDepth 100000 in
theorem spec_DrawNewRun.calls (k : Nat) (A0 : Option Addr) (c0 : Nat) (l0 : List Int) (r1 : List (S39)) (r2 : List Int) (w : World) (hr0 : Kd.C (Kd.int .u8) w A0 l0.length l0) (hc0 : l0.length ≤ c0) (h : spec_DrawNewRun.f k l0 = some (r1, r2)) :
  Calls Try.prog 13 #[.slice A0 l0.length c0] w fun e w' => ∃ v0_ v1_ : Value, e = .returned (.agg #[v0_, v1_]) ∧ Kd.S k39 39 w' w.heap.size (fun k_ => some k_ ≠ (v1_ : Value).ownBlock) v0_ r1 ∧ Kd.R (Kd.int .i64) 2 w' w.heap.size (fun _ => True) v1_ r2 ∧ Below w.heap.size w w' := by
 have hu27 := Try.underlying27; have HR0 := mk_ hr0; have HC0 := mk_ hc0; clear hr0 hc0; have HB := mk_ (Below.refl w.heap.size w); have H : ((spec_l1Open.f l0).bind fun bt198 => ((spec_l24DrawSuite.f k bt198.1 bt198.2).bind fun bt201 => (some (bt201.1, bt201.2.1)))) = some (r1, r2) := h; clear h; replace H := Option.bind_eq_some_iff.mp H; obtain ⟨⟨t198, t199⟩, A20, H⟩ := H; (try dsimp only at H); have A2 := mk_ A20; clear A20; replace H := Option.bind_eq_some_iff.mp H; obtain ⟨⟨t201, t204, t207⟩, A30, H⟩ := H; (try dsimp only at H); have A3 := mk_ A30; clear A30; simp only [Option.some.injEq, Prod.mk.injEq] at H; obtain ⟨rfl, rfl⟩ := H; go_enter Try.func13, Try.ntmps13
 go_wp2_with (first | ((with_reducible refine gate_dst (N := 2) rfl ?_); refine box_event ?hg (N := 2) ?hd (cs := #[.slice none 0 0, .slice none 0 0]) (t := 27) ?hr ?_; (case hd => rfl); (case hg => rfl); (case hr => first | (go_simp; done) | (go_simp; rfl)); intro gb197 hg w4 hbox hb; have BK197 := mk_ (hbox); have GW197 := gE_ HB hg; have GE197 := gE_ HB hg; replace HB := bS_ HB hb; clear hb hbox hg) | ((with_reducible refine gate_callee (f := 43) rfl ?_); refine gL_ (some 4) Try.func43 #[.slice A0 l0.length c0] ?_; (with_reducible refine (spec_l1Open.calls _ _ l0 t198 t199 w _ ?side1 ?side2 ?side3 A2.out).mono ?_); (case side1 => exact sABelo_3); (case side2 => exact HR0.out); (case side3 => exact HC0.out); rintro e w5 ⟨g200, rfl, hi, hb, hb2⟩; refine ⟨_, rfl, ?_⟩; replace HB := mk_ (hb); have HI200 := mk_ (hi); have NB200_197 := mk_ (IsS99.ne_blk hi (blk_below (g := gb197) (o := .cells #[.slice none 0 0, .slice none 0 0] 27 (0, 0)) (bT_ BK197) hb2) (by decide)); have NB197_200 := mk_ (Ne.symm (IsS99.ne_blk hi (blk_below (g := gb197) (o := .cells #[.slice none 0 0, .slice none 0 0] 27 (0, 0)) (bT_ BK197) hb2) (by decide))); replace BK197 := mk_ (blk_below (g := gb197) (o := .cells #[.slice none 0 0, .slice none 0 0] 27 (0, 0)) (bT_ BK197) hb2); (try clear hb); (try clear hb2); (try clear hi)) | ((with_reducible refine gate_callee (f := 42) rfl ?_); refine gL_ (some 5) Try.func42 #[.pointer (some ⟨g200, 0, none⟩)] ?_; (with_reducible refine (spec_l24DrawSuite.calls k g200 t198 t199 t201 t204 t207 w _ ?side1 ?side2 A3.out).mono ?_); (case side1 => repeat (first | (with_reducible first | exact HI200.out | apply IsS99.alloc | apply IsS99.drewN | apply IsS99.drew | apply IsS99.set_1 | refine IsS99.far ?_ NB200_197.out _) | exact HI200.out)); (case side2 => exact sABelo_3); rintro e w6 ⟨v202, v205, rfl, ho0, ho1, hi, hb, hk⟩; refine ⟨_, rfl, ?_⟩; replace BK197 := kB_ hk (bT_ BK197) NB197_200; have HO203 := mk_ (Kd.S_lower ho0 (below_size sABelo_3)); have HO206 := mk_ (Kd.R_lower ho1 (below_size sABelo_3)); replace HB := mk_ (hb); replace HI200 := mk_ (hi); (try clear hb); (try clear hb2); (try clear hk); (try clear hi); (try clear ho0); (try clear ho1); obtain ⟨Ao7, co7, eo7⟩ := Kd.S_slice HO203.out; subst eo7; have hnb8 := NB197_200.out; have hnc8 := NB200_197.out; obtain ⟨hcz9_0, hcz9_1, hfz9_0, hfz9_1⟩ := cf2_ BK197; obtain ⟨Ao10, co10, eo10⟩ := Kd.R_slice HO206.out; subst eo10))
 refine bodyPost_ret (results_cell_row rfl _ _ gb197 27 #[.slice Ao7 t201.length co7, .slice Ao10 t204.length co10] (0, 0) _ rfl (bP_ BK197) Try.underlying27 rfl (by kernel_rfl)) rfl ?_; exact ⟨_, _, eW_, by (with_reducible repeat (first | apply Kd.S_alloc | apply Kd.S_drewN | apply Kd.S_drew)); exact Kd.S_mono (Kd.S_far (p := ⟨gb197, 1, none⟩) (Kd.S_far (p := ⟨gb197, 0, none⟩) (Kd.S_types HO203.out BK197.out (by decide)) (fun _ hk => hk.2) (.slice Ao7 t201.length co7)) (fun _ hk => hk.2) (.slice Ao10 t204.length co10)) (fun _ hk => hk.1), by (with_reducible repeat (first | apply Kd.R_alloc | apply Kd.R_drewN | apply Kd.R_drew)); exact Kd.R_mono (Kd.R_far (p := ⟨gb197, 1, none⟩) (Kd.R_far (p := ⟨gb197, 0, none⟩) (Kd.R_types HO206.out BK197.out (by decide)) (fun _ hk => hk.2) (.slice Ao7 t201.length co7)) (fun _ hk => hk.2) (.slice Ao10 t204.length co10)) (fun _ hk => trivial), sABelo_3⟩

/-! ### spec_l2In: function 60 -/
def spec_l2In.f (a0 : Int) (a1 : Int) (a2 : Int) : Option (Bool) := if a0 ≥ a1 then (some (decide (a0 ≤ a2))) else (some false)
set_option maxHeartbeats 8000000 in
set_option maxRecDepth 100000 in
theorem spec_l2In.calls (a0 : Int) (a1 : Int) (a2 : Int) (r : Bool) (w : World) (h : spec_l2In.f a0 a1 a2 = some r) :
  Calls Try.prog 60 #[.int .i64 a0, .int .i64 a1, .int .i64 a2] w fun e w' => e = .returned (.bool r) ∧ Drawn0 w w' := by
 have H : (if a0 ≥ a1 then (some (decide (a0 ≤ a2))) else (some false)) = some r := h; clear h
 by_cases c4 : a0 ≥ a1
 ·rw [if_pos c4] at H; have c4b0 : decide (a1 ≤ a0) = true := decide_eq_true c4; clear c4; obtain rfl := Option.some.inj H; go_enter Try.func60, Try.ntmps60
  go_wp2
  go_ret; exact ⟨eS_, by repeat (first | exact Drawn0.refl _ | apply Drawn0.step)⟩
 ·rw [if_neg c4] at H; have c4b0 : decide (a1 ≤ a0) = false := decide_eq_false c4; clear c4; obtain rfl := Option.some.inj H; go_enter Try.func60, Try.ntmps60
  go_wp2
  go_ret; exact ⟨eS_, by repeat (first | exact Drawn0.refl _ | apply Drawn0.step)⟩

/-! ### spec_l15All: function 77 -/
def spec_l15All.l0 : Nat → List Int → Int → Int → Int → Option (Bool)
 | 0, _, _, _, _ => none
 | k + 1, x0, x2, x3, x9 => if x9 < (x0.length : Int) then (if 0 ≤ x9 then ((spec_l2In.f (rd x0 x9) x2 x3).bind fun t209 => (if t209 = true then (spec_l15All.l0 k x0 x2 x3 (wrap64 (x9 + 1))) else (some false))) else (none)) else (some true)
def spec_l15All.f (k : Nat) (l0 : List Int) (a1 : Int) (a2 : Int) (a3 : Int) : Option (Bool) := if (l0.length : Int) = a1 then (spec_l15All.l0 k l0 a2 a3 0) else (some false)
theorem spec_l15All.mono_l : ∀ k, (∀ y0 y1 y2 y3, LeO (spec_l15All.l0 k y0 y1 y2 y3) (spec_l15All.l0 (k + 1) y0 y1 y2 y3))
 | 0 => fun _ _ _ _ r h => by simp [spec_l15All.l0] at h
 | k + 1 => by
  have ih0 := spec_l15All.mono_l k
  ·intro y0 y1 y2 y3; unfold spec_l15All.l0
   repeat' first
   | (with_reducible exact ih0 _ _ _ _)
   | (with_reducible exact LeO.refl _)
   | (with_reducible exact LeO.none _)
   | (with_reducible refine LeO.ite ?_ ?_)
   | (with_reducible refine LeO.bind ?_ (fun _ => ?_))
   | exact ih0 _ _ _ _
   | exact LeO.none _
   | refine LeO.ite ?_ ?_
   | refine LeO.bind ?_ (fun _ => ?_)
theorem spec_l15All.mono : ∀ a0 a1 a2 a3 k, LeO (spec_l15All.f k a0 a1 a2 a3) (spec_l15All.f (k + 1) a0 a1 a2 a3) := by
 intro a0 a1 a2 a3 k; have ih0 := spec_l15All.mono_l k; unfold spec_l15All.f
 repeat' first
   | (with_reducible exact ih0 _ _ _ _)
   | (with_reducible exact LeO.refl _)
   | (with_reducible exact LeO.none _)
   | (with_reducible refine LeO.ite ?_ ?_)
   | (with_reducible refine LeO.bind ?_ (fun _ => ?_))
   | exact ih0 _ _ _ _
   | exact LeO.none _
   | refine LeO.ite ?_ ?_
   | refine LeO.bind ?_ (fun _ => ?_)
set_option maxHeartbeats 8000000 in
set_option maxRecDepth 100000 in
theorem spec_l15All.calls (k : Nat) (A0 : Option Addr) (c0 : Nat) (l0 : List Int) (a1 : Int) (a2 : Int) (a3 : Int) (r : Bool) (w : World) (hr0 : Kd.C (Kd.int .i64) w A0 l0.length l0) (hc0 : l0.length ≤ c0) (h : spec_l15All.f k l0 a1 a2 a3 = some r) :
  Calls Try.prog 77 #[.slice A0 l0.length c0, .int .i64 a1, .int .i64 a2, .int .i64 a3] w fun e w' => e = .returned (.bool r) ∧ Drawn0 w w' := by
 have HR0 := mk_ hr0; have HC0 := mk_ hc0; clear hr0 hc0; have H : (if (l0.length : Int) = a1 then (spec_l15All.l0 k l0 a2 a3 0) else (some false)) = some r := h; clear h
 by_cases c5 : (l0.length : Int) = a1
 ·rw [if_pos c5] at H; have c5b0 := beq_iff_eq.mpr c5; have c5b1 := bne_eq_false_iff_eq.mpr c5; clear c5; have H' := mk_ H; clear H; go_enter Try.func77, Try.ntmps77
  go_wp2
  go_loopg [9] k (fun kq v9 w' => ∃ (x9_1 : Int), v9 = .int .i64 x9_1 ∧ Aside0 (spec_l15All.l0 kq l0 a2 a3 x9_1 = some r) ∧ Aside0 (kq ≤ k) ∧ Drawn0 w w')
  case atStart => exact ⟨(0), eS_, H', ⟨Nat.le_refl _⟩, by repeat (first | exact Drawn0.refl _ | apply Drawn0.step)⟩
  case round =>
   clear H'; (try clear c5); (try clear c5b0); (try clear c5b1); obtain ⟨x9_1, rfl, HA, HK1, ⟨m1, rfl⟩⟩ := hrel
   cases gk with
   | zero => exact absurd HA.out (by simp [spec_l15All.l0])
   | succ k1 =>
    have H := HA.out; clear HA; simp only [spec_l15All.l0] at H
    by_cases c6 : x9_1 < (l0.length : Int)
    ·rw [if_pos c6] at H; have c6b0 := decide_eq_true c6; clear c6; obtain ⟨c7, H⟩ := ifS_ H; have c7b0 : decide (0 ≤ x9_1) = true := decide_eq_true c7; clear c7; replace H := Option.bind_eq_some_iff.mp H; obtain ⟨t209, A80, H⟩ := H; (try dsimp only at H); have A8 := mk_ A80; clear A80
     by_cases c9 : t209 = true
     ·subst c9; replace H := ifT_ H; have H' := mk_ H; clear H; have p208 : 0 ≤ (x9_1 : Int) := dA_; have q208 : x9_1 < (l0.length : Int) := dA_; obtain ⟨ad208, e208, hx208_0⟩ := Kd.at_int HR0.out x9_1 p208 q208
      cases e208
      replace p208 := eq_true p208; replace q208 := eq_true q208
      go_wp2_with (first | ((with_reducible refine gate_callee (f := 60) rfl ?_); refine gL_ (some 26) Try.func60 #[.int .i64 (rd l0 x9_1), .int .i64 a2, .int .i64 a3] ?_; (with_reducible refine (spec_l2In.calls (rd l0 x9_1) a2 a3 true _ A8.out).mono ?_); rintro e w' ⟨rfl, ⟨nd, rfl⟩⟩; refine ⟨_, rfl, ?_⟩))
      go_roundg k1
      case measure => have := HK1.out; omega
      case rel => exact ⟨(wrap64 (x9_1 + 1)), eS_, H', ⟨by have := HK1.out; omega⟩, by repeat (first | exact Drawn0.refl _ | apply Drawn0.step)⟩
     ·replace c9 := Bool.eq_false_iff.mpr c9; subst c9; replace H := ifF_ H; obtain rfl := Option.some.inj H; have p208 : 0 ≤ (x9_1 : Int) := dA_; have q208 : x9_1 < (l0.length : Int) := dA_; obtain ⟨ad208, e208, hx208_0⟩ := Kd.at_int HR0.out x9_1 p208 q208
      cases e208
      replace p208 := eq_true p208; replace q208 := eq_true q208
      go_wp2_with (first | ((with_reducible refine gate_callee (f := 60) rfl ?_); refine gL_ (some 26) Try.func60 #[.int .i64 (rd l0 x9_1), .int .i64 a2, .int .i64 a3] ?_; (with_reducible refine (spec_l2In.calls (rd l0 x9_1) a2 a3 false _ A8.out).mono ?_); rintro e w' ⟨rfl, ⟨nd, rfl⟩⟩; refine ⟨_, rfl, ?_⟩))
      go_ret; exact ⟨eS_, by repeat (first | exact Drawn0.refl _ | apply Drawn0.step)⟩
    ·rw [if_neg c6] at H; have c6b0 := decide_eq_false c6; clear c6; obtain rfl := Option.some.inj H
     go_wp2
     go_ret; exact ⟨eS_, by repeat (first | exact Drawn0.refl _ | apply Drawn0.step)⟩
 ·rw [if_neg c5] at H; have c5b0 := beq_eq_false_iff_ne.mpr c5; have c5b1 := bne_iff_ne.mpr c5; obtain rfl := Option.some.inj H; go_enter Try.func77, Try.ntmps77
  go_wp2
  go_ret; exact ⟨eS_, by repeat (first | exact Drawn0.refl _ | apply Drawn0.step)⟩

end Go.Proofs.Ytjoghfehmhapbaa.QFnSuiteOnce
