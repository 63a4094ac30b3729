-- Written by a program of this session out of the printer's texts and contracts of its own.
import Derived.Test.YtjoghfehmhapbaaSq
import Derived.Test.YtjoghfehmhapbaaQFnExactStuckx0
import Derived.Test.YtjoghfehmhapbaaQFnExactStuckx1
import Derived.Test.YtjoghfehmhapbaaQFnExactStuckx5
import Derived.Test.YtjoghfehmhapbaaRunMapFnExactStuck
import Derived.IntWalk
namespace Go.Proofs.Ytjoghfehmhapbaa.QFnExactStuck
open Go.RowKit Go.Proofs.YtjoghfehmhapbaaW.PrintWords Go.Proofs.YtjoghfehmhapbaaW.PrintLast Go.Proofs.YtjoghfehmhapbaaW.PrintMore Go.Proofs.Ytjoghfehmhapbaa.Sq
attribute [local go_sem] max2_int min2_int max_two min_two max_three min_three max_four min_four   -- for this text's walks alone
set_option linter.unusedVariables false
set_option linter.unusedSimpArgs false
theorem sABelo_6 {b : Nat} {w W : World} (h : Below b w W := by repeat (first | (with_reducible first | exact Aside0.out (by assumption) | apply below_alloc | apply pw_below_drewN | apply below_drew1 | refine below_set ?_ (Aside0.out (by assumption))) | exact Aside0.out (by assumption))) : Below b w W := h

/-! ### impl_Run_done: function 51 -/
def impl_Run_done.l0 : Nat → List Int → Int → Int → List (S39) → List Int → Int → List (S43) → Option (Bool)
 | 0, _, _, _, _, _, _, _ => none
 | k + 1, x13, x14, x15, x148000, x148001, x148002, x148003 => if x15 < x14 then (if 0 ≤ x15 then (if x15 < (x13.length : Int) then (if 0 ≤ (wrap64 ((rd x13 x15) - 1)) then (if (wrap64 ((rd x13 x15) - 1)) < (x148003.length : Int) then (if ((rd_T43 x148003 (wrap64 ((rd x13 x15) - 1))).f0) = 2 then (impl_Run_done.l0 k x13 x14 (wrap64 (x15 + 1)) x148000 x148001 x148002 x148003) else (some false)) else (none)) else (none)) else (none)) else (none)) else (some true)
def impl_Run_done.f (k : Nat) (l0_0 : List (S39)) (l0_1 : List Int) (a0_2 : Int) (l0_3 : List (S43)) (a1 : Int) : Option (Bool) := if 0 ≤ a1 then (if a1 < (l0_0.length : Int) then (impl_Run_done.l0 k ((rd_T39 l0_0 a1).f0) (((rd_T39 l0_0 a1).f0).length : Int) 0 l0_0 l0_1 a0_2 l0_3) else (none)) else (none)
theorem impl_Run_done.mono_l : ∀ k, (∀ y0 y1 y2 y3 y4 y5 y6, LeO (impl_Run_done.l0 k y0 y1 y2 y3 y4 y5 y6) (impl_Run_done.l0 (k + 1) y0 y1 y2 y3 y4 y5 y6))
 | 0 => fun _ _ _ _ _ _ _ r h => by simp [impl_Run_done.l0] at h
 | k + 1 => by
  have ih0 := impl_Run_done.mono_l k
  ·intro y0 y1 y2 y3 y4 y5 y6
   unfold impl_Run_done.l0
   repeat' first
   | (with_reducible exact ih0 _ _ _ _ _ _ _)
   | (with_reducible exact LeO.refl _)
   | (with_reducible exact LeO.none _)
   | (with_reducible refine LeO.ite ?_ ?_)
   | (with_reducible refine LeO.bind ?_ (fun _ => ?_))
   | exact ih0 _ _ _ _ _ _ _
   | exact LeO.none _
   | refine LeO.ite ?_ ?_
   | refine LeO.bind ?_ (fun _ => ?_)
theorem impl_Run_done.mono : ∀ a0 a1 a2 a3 a4 k, LeO (impl_Run_done.f k a0 a1 a2 a3 a4) (impl_Run_done.f (k + 1) a0 a1 a2 a3 a4) := by
 intro a0 a1 a2 a3 a4 k
 have ih0 := impl_Run_done.mono_l k
 unfold impl_Run_done.f
 repeat' first
   | (with_reducible exact ih0 _ _ _ _ _ _ _)
   | (with_reducible exact LeO.refl _)
   | (with_reducible exact LeO.none _)
   | (with_reducible refine LeO.ite ?_ ?_)
   | (with_reducible refine LeO.bind ?_ (fun _ => ?_))
   | exact ih0 _ _ _ _ _ _ _
   | exact LeO.none _
   | refine LeO.ite ?_ ?_
   | refine LeO.bind ?_ (fun _ => ?_)
set_option maxHeartbeats 8000000 in
set_option maxRecDepth 100000 in
theorem impl_Run_done.calls (k : Nat) (A0_0 : Option Addr) (c0_0 : Nat) (l0_0 : List (S39)) (A0_1 : Option Addr) (c0_1 : Nat) (l0_1 : List Int) (a0_2 : Int) (A0_3 : Option Addr) (c0_3 : Nat) (l0_3 : List (S43)) (a1 : Int) (r : Bool) (w : World) (hr0_0 : Kd.C k39 w A0_0 l0_0.length l0_0) (hc0_0 : l0_0.length ≤ c0_0) (hr0_1 : Kd.C (Kd.int .i64) w A0_1 l0_1.length l0_1) (hc0_1 : l0_1.length ≤ c0_1) (hr0_3 : Kd.C k43 w A0_3 l0_3.length l0_3) (hc0_3 : l0_3.length ≤ c0_3) (h : impl_Run_done.f k l0_0 l0_1 a0_2 l0_3 a1 = some r) :
  Calls Try.prog 51 #[.agg #[.slice A0_0 l0_0.length c0_0, .slice A0_1 l0_1.length c0_1, .int .i64 a0_2, .slice A0_3 l0_3.length c0_3], .int .i64 a1] w fun e w' => e = .returned (.bool r) ∧ Below w.heap.size w w' := by
 have hu31 := Try.underlying31; have HR0_0 := Aside0.mk hr0_0; have HC0_0 := Aside0.mk hc0_0; clear hr0_0 hc0_0; have HR0_1 := Aside0.mk hr0_1; have HC0_1 := Aside0.mk hc0_1; clear hr0_1 hc0_1; have HR0_3 := Aside0.mk hr0_3; have HC0_3 := Aside0.mk hc0_3; clear hr0_3 hc0_3
 have HB := Aside0.mk (Below.refl w.heap.size w)
 have H : (if 0 ≤ a1 then (if a1 < (l0_0.length : Int) then (impl_Run_done.l0 k ((rd_T39 l0_0 a1).f0) (((rd_T39 l0_0 a1).f0).length : Int) 0 l0_0 l0_1 a0_2 l0_3) else (none)) else (none)) = some r := h
 clear h
 obtain ⟨c3, H⟩ := ifS_ H
 have c3b0 : decide (0 ≤ a1) = true := decide_eq_true c3
 clear c3
 obtain ⟨c4, H⟩ := ifS_ H
 have c4b0 : decide (a1 < (l0_0.length : Int)) = true := decide_eq_true c4
 clear c4; have H' := Aside0.mk H; clear H
 go_enter Try.func51, Try.ntmps51
 go_wp2_with (first | ((with_reducible refine gate_dst (N := 2) rfl ?_); refine box_event ?hg (N := 2) ?hd (cs := #[.slice A0_0 l0_0.length c0_0, .slice A0_1 l0_1.length c0_1, .int .i64 a0_2, .slice A0_3 l0_3.length c0_3]) (t := 31) ?hr ?_; (case hd => rfl); (case hg => rfl); (case hr => first | (go_simp; done) | (go_simp; rfl)); intro gb147 hg w5 hbox hb; have BK147 := Aside0.mk (hbox); have GW147 := gE_ HB hg; have GE147 := gE_ HB hg; replace HB := bS_ HB hb; clear hb hbox hg; obtain ⟨hcz6_0, hcz6_1, hcz6_2, hcz6_3, hfz6_0, hfz6_1, hfz6_2, hfz6_3⟩ := cf4_ BK147; have p148 : 0 ≤ (a1 : Int) := dA_; have q148 : a1 < (l0_0.length : Int) := dA_; obtain ⟨ad148, A148_0, c148_0, e148, hx148_0, hx148_1, hx148_2, hx148_3, hl148_0, hi148_0⟩ := at_T39 HR0_0.out a1 p148 q148; cases e148; replace hx148_0 := hX_ HB hx148_0; replace hx148_1 := hX_ HB hx148_1; replace hx148_2 := hX_ HB hx148_2; replace hx148_3 := hX_ HB hx148_3; have HR148_0 := Aside0.mk hi148_0; have HC148_0 := Aside0.mk hl148_0; clear hi148_0 hl148_0; replace p148 := eq_true p148; replace q148 := eq_true q148))
 go_loopg [15] k (fun kq v15 w' => ∃ (x15_1 : Int), v15 = .int .i64 x15_1 ∧ Aside0 (impl_Run_done.l0 kq ((rd_T39 l0_0 a1).f0) (((rd_T39 l0_0 a1).f0).length : Int) x15_1 l0_0 l0_1 a0_2 l0_3 = some r) ∧ Aside0 (kq ≤ k) ∧ Aside0 (w'.heap[gb147]? = some (.cells #[(.slice (some ad148) l0_0.length c0_0), (.slice A0_1 l0_1.length c0_1), .int .i64 a0_2, (.slice A0_3 l0_3.length c0_3)] 31 (0, 0))) ∧ Aside0 (Below w.heap.size w w'))
 case atStart => exact ⟨(0), (by first | rfl | (simp; done) | (simp [*]; done)), H', ⟨Nat.le_refl _⟩, ⟨bT_ BK147⟩, ⟨sABelo_6⟩⟩
 case round =>
  clear H'; (try clear c3); (try clear c3b0); (try clear c4); (try clear c4b0); (try clear hcz6_0); (try clear hcz6_1); (try clear hcz6_2); (try clear hcz6_3); (try clear hfz6_0); (try clear hfz6_1); (try clear hfz6_2); (try clear hfz6_3); (try clear hx148_0); (try clear hx148_1); (try clear hx148_2); (try clear hx148_3); (try clear p148); (try clear q148)
  obtain ⟨x15_1, rfl, HA, HK1, BK147, HB⟩ := hrel
  cases gk with
  | zero => exact absurd HA.out (by simp [impl_Run_done.l0])
  | succ k1 =>
   have H := HA.out; clear HA
   simp only [impl_Run_done.l0] at H
   by_cases c7 : x15_1 < (((rd_T39 l0_0 a1).f0).length : Int)
   ·rw [if_pos c7] at H
    have c7b0 := decide_eq_true c7
    clear c7
    obtain ⟨c8, H⟩ := ifS_ H
    have c8b0 : decide (0 ≤ x15_1) = true := decide_eq_true c8
    clear c8
    obtain ⟨c9, H⟩ := ifS_ H
    have c9b0 : decide (x15_1 < (((rd_T39 l0_0 a1).f0).length : Int)) = true := decide_eq_true c9
    clear c9
    obtain ⟨ji10, hji10⟩ : ∃ j_ : Int, (wrap64 ((rd ((rd_T39 l0_0 a1).f0) x15_1) - 1)) = j_ := ⟨_, rfl⟩
    replace H : (if 0 ≤ (ji10) then (if (ji10) < (l0_3.length : Int) then (if ((rd_T43 l0_3 (ji10)).f0) = 2 then (impl_Run_done.l0 k1 ((rd_T39 l0_0 a1).f0) (((rd_T39 l0_0 a1).f0).length : Int) (wrap64 (x15_1 + 1)) l0_0 l0_1 a0_2 l0_3) else (some false)) else (none)) else (none)) = some r := by first | (rw [hji10] at H; exact H) | (simp only [hji10] at H ⊢; exact H)
    have hji10w : (IntKind.i64.wrap ((rd ((rd_T39 l0_0 a1).f0) x15_1) - 1)) = ji10 := (i64_w _).trans hji10
    obtain ⟨c11, H⟩ := ifS_ H
    have c11b0 : decide (0 ≤ (ji10)) = true := decide_eq_true c11
    clear c11
    obtain ⟨c12, H⟩ := ifS_ H
    have c12b0 : decide ((ji10) < (l0_3.length : Int)) = true := decide_eq_true c12
    clear c12
    by_cases c13 : ((rd_T43 l0_3 (ji10)).f0) = 2
    ·rw [if_pos c13] at H
     have c13b0 := beq_iff_eq.mpr c13
     have c13b1 := bne_eq_false_iff_eq.mpr c13
     clear c13; have H' := Aside0.mk H; clear H
     have p149 : 0 ≤ (x15_1 : Int) := dA_
     have q149 : x15_1 < (((rd_T39 l0_0 a1).f0).length : Int) := dA_
     obtain ⟨ad149, e149, hx149_0⟩ := Kd.at_int HR148_0.out x15_1 p149 q149
     cases e149
     replace hx149_0 := hX_ HB hx149_0
     replace p149 := eq_true p149; replace q149 := eq_true q149
     obtain ⟨hcz14_0, hcz14_1, hcz14_2, hcz14_3, hfz14_0, hfz14_1, hfz14_2, hfz14_3⟩ := cf4_ BK147
     have p150 : 0 ≤ ((ji10) : Int) := dA_
     have q150 : (ji10) < (l0_3.length : Int) := dA_
     obtain ⟨ad150, e150, hx150_0, hx150_1⟩ := at_T43 HR0_3.out (ji10) p150 q150
     cases e150
     replace hx150_0 := hX_ HB hx150_0
     replace hx150_1 := hX_ HB hx150_1
     replace p150 := eq_true p150; replace q150 := eq_true q150
     go_wp2
     go_roundg k1
     case measure => have := HK1.out; omega
     case rel => exact ⟨(wrap64 (x15_1 + 1)), (by first | rfl | (simp; done) | (simp [*]; done)), H', ⟨by have := HK1.out; omega⟩, ⟨bT_ BK147⟩, ⟨sABelo_6⟩⟩
    ·rw [if_neg c13] at H
     have c13b0 := beq_eq_false_iff_ne.mpr c13
     have c13b1 := bne_iff_ne.mpr c13
     obtain rfl := Option.some.inj H
     have p149 : 0 ≤ (x15_1 : Int) := dA_
     have q149 : x15_1 < (((rd_T39 l0_0 a1).f0).length : Int) := dA_
     obtain ⟨ad149, e149, hx149_0⟩ := Kd.at_int HR148_0.out x15_1 p149 q149
     cases e149
     replace hx149_0 := hX_ HB hx149_0
     replace p149 := eq_true p149; replace q149 := eq_true q149
     obtain ⟨hcz15_0, hcz15_1, hcz15_2, hcz15_3, hfz15_0, hfz15_1, hfz15_2, hfz15_3⟩ := cf4_ BK147
     have p150 : 0 ≤ ((ji10) : Int) := dA_
     have q150 : (ji10) < (l0_3.length : Int) := dA_
     obtain ⟨ad150, e150, hx150_0, hx150_1⟩ := at_T43 HR0_3.out (ji10) p150 q150
     cases e150
     replace hx150_0 := hX_ HB hx150_0
     replace hx150_1 := hX_ HB hx150_1
     replace p150 := eq_true p150; replace q150 := eq_true q150
     go_wp2
     go_ret
     exact ⟨by first | rfl | (simp [errW_none, errW_some] <;> rfl) | (simp only [← hji10]; first | rfl | (simp [errW_none, errW_some] <;> rfl)) | (simp [*, errW_none, errW_some] <;> rfl), sABelo_6⟩
   ·rw [if_neg c7] at H
    have c7b0 := decide_eq_false c7
    clear c7
    obtain rfl := Option.some.inj H
    go_wp2
    go_ret
    exact ⟨by first | rfl | (simp [errW_none, errW_some] <;> rfl) | (simp [*, errW_none, errW_some] <;> rfl), sABelo_6⟩

/-! ### impl_runOk: function 48 -/
mutual
def impl_runOk.j0 : Nat → Bool → List (S39) → List Int → Int → List (S43) → Option (Bool)
 | 0, _, _, _, _, _ => none
 | k + 1, x27, x152000, x152001, x152002, x152003 => if x27 = true then (some false) else (impl_runOk.l0 k x152003 (x152003.length : Int) 0 x152000 x152001 x152002 x152003)
def impl_runOk.l0 : Nat → List (S43) → Int → Int → List (S39) → List Int → Int → List (S43) → Option (Bool)
 | 0, _, _, _, _, _, _, _ => none
 | k + 1, x29, x30, x31, x152000, x152001, x152002, x152003 => if x31 < x30 then (if 0 ≤ x31 then (if x31 < (x29.length : Int) then (if x31 < (x152000.length : Int) then ((impl_in.f ((rd_T43 x29 x31).f0) 0 3).bind fun t158 => (if t158 = true then ((impl_in.f ((rd_T43 x29 x31).f1) 0 ((rd_T39 x152000 x31).f3)).bind fun t159 => (if t159 = true then (if ((rd_T43 x29 x31).f0) = 0 then (if ((rd_T43 x29 x31).f0) = 3 then (if ((rd_T43 x29 x31).f1) = ((rd_T39 x152000 x31).f3) then (some false) else (some false)) else (if ((rd_T43 x29 x31).f1) = ((rd_T39 x152000 x31).f3) then (some false) else (impl_runOk.l0 k x29 x30 (wrap64 (x31 + 1)) x152000 x152001 x152002 x152003))) else (if ((rd_T43 x29 x31).f1) = 0 then (some false) else ((impl_Run_done.f k x152000 x152001 x152002 x152003 x31).bind fun t160 => (if t160 = true then (if ((rd_T43 x29 x31).f0) = 3 then (if ((rd_T43 x29 x31).f1) = ((rd_T39 x152000 x31).f3) then (impl_runOk.l0 k x29 x30 (wrap64 (x31 + 1)) x152000 x152001 x152002 x152003) else (some false)) else (impl_runOk.l0 k x29 x30 (wrap64 (x31 + 1)) x152000 x152001 x152002 x152003)) else (some false))))) else (some false))) else (some false))) else (none)) else (none)) else (none)) else ((impl_Run_running.f k x152000 x152001 x152002 x152003).bind fun t154 => (if t154 = true then (some true) else (some false)))
end
def impl_runOk.f (k : Nat) (l0_0 : List (S39)) (l0_1 : List Int) (a0_2 : Int) (l0_3 : List (S43)) : Option (Bool) := (impl_SuiteOk.f k l0_0 l0_1).bind fun t152 => (if t152 = true then ((impl_in.f a0_2 0 1000000000000).bind fun t153 => (if t153 = true then (impl_runOk.j0 k ((l0_3.length : Int) != (l0_0.length : Int)) l0_0 l0_1 a0_2 l0_3) else (impl_runOk.j0 k true l0_0 l0_1 a0_2 l0_3))) else (impl_runOk.j0 k true l0_0 l0_1 a0_2 l0_3))
theorem impl_runOk.mono_l : ∀ k, (∀ y0 y1 y2 y3 y4, LeO (impl_runOk.j0 k y0 y1 y2 y3 y4) (impl_runOk.j0 (k + 1) y0 y1 y2 y3 y4)) ∧ (∀ y0 y1 y2 y3 y4 y5 y6, LeO (impl_runOk.l0 k y0 y1 y2 y3 y4 y5 y6) (impl_runOk.l0 (k + 1) y0 y1 y2 y3 y4 y5 y6))
 | 0 => ⟨fun _ _ _ _ _ r h => by simp [impl_runOk.j0] at h, fun _ _ _ _ _ _ _ r h => by simp [impl_runOk.l0] at h⟩
 | k + 1 => by
  obtain ⟨ih0, ih1⟩ := impl_runOk.mono_l k
  refine ⟨?_, ?_⟩
  intro y0 y1 y2 y3 y4; unfold impl_runOk.j0; rotate_left
  intro y0 y1 y2 y3 y4 y5 y6; unfold impl_runOk.l0; rotate_left
  all_goals repeat' first
  | (with_reducible exact ih0 _ _ _ _ _)
  | (with_reducible exact ih1 _ _ _ _ _ _ _)
  | (with_reducible exact impl_Run_done.mono _ _ _ _ _ _)
  | (with_reducible exact impl_Run_running.mono _ _ _ _ _)
  | (with_reducible exact impl_SuiteOk.mono _ _ _)
  | (with_reducible exact LeO.refl _)
  | (with_reducible exact LeO.none _)
  | (with_reducible refine LeO.ite ?_ ?_)
  | (with_reducible refine LeO.bind ?_ (fun _ => ?_))
  | exact ih0 _ _ _ _ _
  | exact ih1 _ _ _ _ _ _ _
  | exact impl_Run_done.mono _ _ _ _ _ _
  | exact impl_Run_running.mono _ _ _ _ _
  | exact impl_SuiteOk.mono _ _ _
  | exact LeO.none _
  | refine LeO.ite ?_ ?_
  | refine LeO.bind ?_ (fun _ => ?_)
theorem impl_runOk.mono : ∀ a0 a1 a2 a3 k, LeO (impl_runOk.f k a0 a1 a2 a3) (impl_runOk.f (k + 1) a0 a1 a2 a3) := by
 intro a0 a1 a2 a3 k
 obtain ⟨ih0, ih1⟩ := impl_runOk.mono_l k
 unfold impl_runOk.f
 repeat' first
   | (with_reducible exact ih0 _ _ _ _ _)
   | (with_reducible exact ih1 _ _ _ _ _ _ _)
   | (with_reducible exact impl_Run_done.mono _ _ _ _ _ _)
   | (with_reducible exact impl_Run_running.mono _ _ _ _ _)
   | (with_reducible exact impl_SuiteOk.mono _ _ _)
   | (with_reducible exact LeO.refl _)
   | (with_reducible exact LeO.none _)
   | (with_reducible refine LeO.ite ?_ ?_)
   | (with_reducible refine LeO.bind ?_ (fun _ => ?_))
   | exact ih0 _ _ _ _ _
   | exact ih1 _ _ _ _ _ _ _
   | exact impl_Run_done.mono _ _ _ _ _ _
   | exact impl_Run_running.mono _ _ _ _ _
   | exact impl_SuiteOk.mono _ _ _
   | exact LeO.none _
   | refine LeO.ite ?_ ?_
   | refine LeO.bind ?_ (fun _ => ?_)
set_option maxHeartbeats 8000000 in
set_option maxRecDepth 100000 in
theorem impl_runOk.calls (k : Nat) (A0_0 : Option Addr) (c0_0 : Nat) (l0_0 : List (S39)) (A0_1 : Option Addr) (c0_1 : Nat) (l0_1 : List Int) (a0_2 : Int) (A0_3 : Option Addr) (c0_3 : Nat) (l0_3 : List (S43)) (r : Bool) (w : World) (hr0_0 : Kd.C k39 w A0_0 l0_0.length l0_0) (hc0_0 : l0_0.length ≤ c0_0) (hr0_1 : Kd.C (Kd.int .i64) w A0_1 l0_1.length l0_1) (hc0_1 : l0_1.length ≤ c0_1) (hr0_3 : Kd.C k43 w A0_3 l0_3.length l0_3) (hc0_3 : l0_3.length ≤ c0_3) (h : impl_runOk.f k l0_0 l0_1 a0_2 l0_3 = some r) :
  Calls Try.prog 48 #[.agg #[.slice A0_0 l0_0.length c0_0, .slice A0_1 l0_1.length c0_1, .int .i64 a0_2, .slice A0_3 l0_3.length c0_3]] w fun e w' => e = .returned (.bool r) ∧ Below w.heap.size w w' := by
 have hu31 := Try.underlying31; have hu27 := Try.underlying27; have hu43 := Try.underlying43; have HR0_0 := Aside0.mk hr0_0; have HC0_0 := Aside0.mk hc0_0; clear hr0_0 hc0_0; have HR0_1 := Aside0.mk hr0_1; have HC0_1 := Aside0.mk hc0_1; clear hr0_1 hc0_1; have HR0_3 := Aside0.mk hr0_3; have HC0_3 := Aside0.mk hc0_3; clear hr0_3 hc0_3
 have HB := Aside0.mk (Below.refl w.heap.size w)
 have H : ((impl_SuiteOk.f k l0_0 l0_1).bind fun t152 => (if t152 = true then ((impl_in.f a0_2 0 1000000000000).bind fun t153 => (if t153 = true then (impl_runOk.j0 k ((l0_3.length : Int) != (l0_0.length : Int)) l0_0 l0_1 a0_2 l0_3) else (impl_runOk.j0 k true l0_0 l0_1 a0_2 l0_3))) else (impl_runOk.j0 k true l0_0 l0_1 a0_2 l0_3))) = some r := h
 clear h; have HC2 := Aside0.mk H; clear H
 go_enter Try.func48, Try.ntmps48
 go_upto_region 1 with (first | ((with_reducible refine gate_dst (N := 1) rfl ?_); (try (refine gate_guard (by rfl) ?_; dsimp only)); refine box_event ?hg (N := 1) ?hd (cs := #[.slice A0_0 l0_0.length c0_0, .slice A0_1 l0_1.length c0_1, .int .i64 a0_2, .slice A0_3 l0_3.length c0_3]) (t := 31) ?hr ?_; (case hd => rfl); (case hg => rfl); (case hr => first | (go_simp; done) | (go_simp; rfl)); intro gb151 hg w3 hbox hb; have BK151 := Aside0.mk (hbox); have GW151 := gE_ HB hg; have GE151 := gE_ HB hg; replace HB := bS_ HB hb; clear hb hbox hg))
 (try simp only [Act.put, List.setIfInBounds_toArray, List.set_cons_zero, List.set_cons_succ])
 go_cut [27] (fun v27 wc => ∃ (kq : Nat) (x27_1 : Bool), v27 = .bool x27_1 ∧ Aside0 (impl_runOk.j0 kq x27_1 l0_0 l0_1 a0_2 l0_3 = some r) ∧ Aside0 (kq ≤ k) ∧ Aside0 (wc.heap[gb151]? = some (.cells #[(.slice A0_0 l0_0.length c0_0), (.slice A0_1 l0_1.length c0_1), .int .i64 a0_2, (.slice A0_3 l0_3.length c0_3)] 31 (0, 0))) ∧ Aside0 (Below w.heap.size w wc))
 case first =>
  have H := HC2.out; clear HC2; replace H := Option.bind_eq_some_iff.mp H
  obtain ⟨t152, A40, H⟩ := H
  replace H : (if t152 = true then ((impl_in.f a0_2 0 1000000000000).bind fun t153 => (if t153 = true then (impl_runOk.j0 k ((l0_3.length : Int) != (l0_0.length : Int)) l0_0 l0_1 a0_2 l0_3) else (impl_runOk.j0 k true l0_0 l0_1 a0_2 l0_3))) else (impl_runOk.j0 k true l0_0 l0_1 a0_2 l0_3)) = some r := H
  have A4 := Aside0.mk A40; clear A40
  by_cases c5 : t152 = true
  ·subst c5
   replace H := ifT_ H; replace H := Option.bind_eq_some_iff.mp H
   obtain ⟨t153, A60, H⟩ := H
   replace H : (if t153 = true then (impl_runOk.j0 k ((l0_3.length : Int) != (l0_0.length : Int)) l0_0 l0_1 a0_2 l0_3) else (impl_runOk.j0 k true l0_0 l0_1 a0_2 l0_3)) = some r := H
   have A6 := Aside0.mk A60; clear A60
   by_cases c7 : t153 = true
   ·subst c7
    replace H := ifT_ H; have H' := Aside0.mk H; clear H
    obtain ⟨hcz8_0, hcz8_1, hcz8_2, hcz8_3, hfz8_0, hfz8_1, hfz8_2, hfz8_3⟩ := cf4_ BK151
    go_wp2_with (first | ((with_reducible refine gate_callee (f := 46) rfl ?_); refine gL_ (some 10) Try.func46 #[.agg #[.slice A0_0 l0_0.length c0_0, .slice A0_1 l0_1.length c0_1]] ?_; (with_reducible refine (impl_SuiteOk.calls k _ _ l0_0 _ _ l0_1 true _ ?side1 ?side2 ?side3 ?side4 A4.out).mono ?_); (case side1 => exact cB_ HR0_0 HB); (case side2 => exact HC0_0.out); (case side3 => exact cB_ HR0_1 HB); (case side4 => exact HC0_1.out); rintro e w9 ⟨rfl, hb⟩; refine ⟨_, rfl, ?_⟩; replace BK151 := bB_ BK151 hb; replace HB := bS_ HB hb; (try clear hb); obtain ⟨hcz10_0, hcz10_1, hcz10_2, hcz10_3, hfz10_0, hfz10_1, hfz10_2, hfz10_3⟩ := cf4_ BK151) | (go_at_call 52; (with_reducible refine (impl_in.calls a0_2 0 1000000000000 true _ A6.out).mono ?_); rintro e w' ⟨rfl, ⟨nd, rfl⟩⟩))
    go_meet
    case rel => exact ⟨_, (((l0_3.length : Int) != (l0_0.length : Int))), (by first | rfl | (simp; done) | (simp [*]; done)), H', ⟨by first | omega | exact Nat.le_refl _⟩, ⟨bT_ BK151⟩, ⟨sABelo_6⟩⟩
   ·replace c7 := Bool.eq_false_iff.mpr c7
    subst c7
    replace H := ifF_ H; have H' := Aside0.mk H; clear H
    obtain ⟨hcz11_0, hcz11_1, hcz11_2, hcz11_3, hfz11_0, hfz11_1, hfz11_2, hfz11_3⟩ := cf4_ BK151
    go_wp2_with (first | ((with_reducible refine gate_callee (f := 46) rfl ?_); refine gL_ (some 10) Try.func46 #[.agg #[.slice A0_0 l0_0.length c0_0, .slice A0_1 l0_1.length c0_1]] ?_; (with_reducible refine (impl_SuiteOk.calls k _ _ l0_0 _ _ l0_1 true _ ?side1 ?side2 ?side3 ?side4 A4.out).mono ?_); (case side1 => exact cB_ HR0_0 HB); (case side2 => exact HC0_0.out); (case side3 => exact cB_ HR0_1 HB); (case side4 => exact HC0_1.out); rintro e w12 ⟨rfl, hb⟩; refine ⟨_, rfl, ?_⟩; replace BK151 := bB_ BK151 hb; replace HB := bS_ HB hb; (try clear hb); obtain ⟨hcz13_0, hcz13_1, hcz13_2, hcz13_3, hfz13_0, hfz13_1, hfz13_2, hfz13_3⟩ := cf4_ BK151) | (go_at_call 52; (with_reducible refine (impl_in.calls a0_2 0 1000000000000 false _ A6.out).mono ?_); rintro e w' ⟨rfl, ⟨nd, rfl⟩⟩))
    go_meet
    case rel => exact ⟨_, (true), (by first | rfl | (simp; done) | (simp [*]; done)), H', ⟨by first | omega | exact Nat.le_refl _⟩, ⟨bT_ BK151⟩, ⟨sABelo_6⟩⟩
  ·replace c5 := Bool.eq_false_iff.mpr c5
   subst c5
   replace H := ifF_ H; have H' := Aside0.mk H; clear H
   obtain ⟨hcz14_0, hcz14_1, hcz14_2, hcz14_3, hfz14_0, hfz14_1, hfz14_2, hfz14_3⟩ := cf4_ BK151
   go_wp2_with (first | ((with_reducible refine gate_callee (f := 46) rfl ?_); refine gL_ (some 10) Try.func46 #[.agg #[.slice A0_0 l0_0.length c0_0, .slice A0_1 l0_1.length c0_1]] ?_; (with_reducible refine (impl_SuiteOk.calls k _ _ l0_0 _ _ l0_1 false _ ?side1 ?side2 ?side3 ?side4 A4.out).mono ?_); (case side1 => exact cB_ HR0_0 HB); (case side2 => exact HC0_0.out); (case side3 => exact cB_ HR0_1 HB); (case side4 => exact HC0_1.out); rintro e w15 ⟨rfl, hb⟩; refine ⟨_, rfl, ?_⟩; replace BK151 := bB_ BK151 hb; replace HB := bS_ HB hb; (try clear hb)))
   go_meet
   case rel => exact ⟨_, (true), (by first | rfl | (simp; done) | (simp [*]; done)), H', ⟨by first | omega | exact Nat.le_refl _⟩, ⟨bT_ BK151⟩, ⟨sABelo_6⟩⟩
 case rest =>
  clear HC2
  obtain ⟨kq, x27_1, rfl, HA, HJ1, BK151, HB⟩ := hcut
  cases kq with
  | zero => exact absurd HA.out (by simp [impl_runOk.j0])
  | succ kj1 =>
   have H := HA.out; clear HA
   simp only [impl_runOk.j0] at H
   by_cases c16 : x27_1 = true
   ·subst c16
    replace H := ifT_ H
    obtain rfl := Option.some.inj H
    go_wp2
    go_ret
    exact ⟨by first | rfl | (simp [errW_none, errW_some] <;> rfl) | (simp [*, errW_none, errW_some] <;> rfl), sABelo_6⟩
   ·replace c16 := Bool.eq_false_iff.mpr c16
    subst c16
    replace H := ifF_ H; have H' := Aside0.mk H; clear H
    obtain ⟨hcz17_0, hcz17_1, hcz17_2, hcz17_3, hfz17_0, hfz17_1, hfz17_2, hfz17_3⟩ := cf4_ BK151
    go_wp2
    go_loopg [31] kj1 (fun kq v31 w' => ∃ (x31_2 : Int), v31 = .int .i64 x31_2 ∧ Aside0 (impl_runOk.l0 kq l0_3 (l0_3.length : Int) x31_2 l0_0 l0_1 a0_2 l0_3 = some r) ∧ Aside0 (kq ≤ kj1) ∧ Aside0 (w'.heap[gb151]? = some (.cells #[(.slice A0_0 l0_0.length c0_0), (.slice A0_1 l0_1.length c0_1), .int .i64 a0_2, (.slice A0_3 l0_3.length c0_3)] 31 (0, 0))) ∧ Aside0 (Below w.heap.size w w'))
    case atStart => exact ⟨(0), (by first | rfl | (simp; done) | (simp [*]; done)), H', ⟨Nat.le_refl _⟩, ⟨bT_ BK151⟩, ⟨sABelo_6⟩⟩
    case round =>
     clear H'; (try clear c16); (try clear hcz17_0); (try clear hcz17_1); (try clear hcz17_2); (try clear hcz17_3); (try clear hfz17_0); (try clear hfz17_1); (try clear hfz17_2); (try clear hfz17_3)
     obtain ⟨x31_2, rfl, HA, HK2, BK151, HB⟩ := hrel
     cases gk with
     | zero => exact absurd HA.out (by simp [impl_runOk.l0])
     | succ k2 =>
      have H := HA.out; clear HA
      simp only [impl_runOk.l0] at H
      by_cases c18 : x31_2 < (l0_3.length : Int)
      ·rw [if_pos c18] at H
       have c18b0 := decide_eq_true c18
       clear c18
       obtain ⟨c19, H⟩ := ifS_ H
       have c19b0 : decide (0 ≤ x31_2) = true := decide_eq_true c19
       clear c19
       obtain ⟨c20, H⟩ := ifS_ H
       have c20b0 : decide (x31_2 < (l0_3.length : Int)) = true := decide_eq_true c20
       clear c20
       obtain ⟨c21, H⟩ := ifS_ H
       have c21b0 : decide (x31_2 < (l0_0.length : Int)) = true := decide_eq_true c21
       clear c21; replace H := Option.bind_eq_some_iff.mp H
       obtain ⟨t158, A220, H⟩ := H
       replace H : (if t158 = true then ((impl_in.f ((rd_T43 l0_3 x31_2).f1) 0 ((rd_T39 l0_0 x31_2).f3)).bind fun t159 => (if t159 = true then (if ((rd_T43 l0_3 x31_2).f0) = 0 then (if ((rd_T43 l0_3 x31_2).f0) = 3 then (if ((rd_T43 l0_3 x31_2).f1) = ((rd_T39 l0_0 x31_2).f3) then (some false) else (some false)) else (if ((rd_T43 l0_3 x31_2).f1) = ((rd_T39 l0_0 x31_2).f3) then (some false) else (impl_runOk.l0 k2 l0_3 (l0_3.length : Int) (wrap64 (x31_2 + 1)) l0_0 l0_1 a0_2 l0_3))) else (if ((rd_T43 l0_3 x31_2).f1) = 0 then (some false) else ((impl_Run_done.f k2 l0_0 l0_1 a0_2 l0_3 x31_2).bind fun t160 => (if t160 = true then (if ((rd_T43 l0_3 x31_2).f0) = 3 then (if ((rd_T43 l0_3 x31_2).f1) = ((rd_T39 l0_0 x31_2).f3) then (impl_runOk.l0 k2 l0_3 (l0_3.length : Int) (wrap64 (x31_2 + 1)) l0_0 l0_1 a0_2 l0_3) else (some false)) else (impl_runOk.l0 k2 l0_3 (l0_3.length : Int) (wrap64 (x31_2 + 1)) l0_0 l0_1 a0_2 l0_3)) else (some false))))) else (some false))) else (some false)) = some r := H
       have A22 := Aside0.mk A220; clear A220
       by_cases c23 : t158 = true
       ·subst c23
        replace H := ifT_ H; replace H := Option.bind_eq_some_iff.mp H
        obtain ⟨t159, A240, H⟩ := H
        replace H : (if t159 = true then (if ((rd_T43 l0_3 x31_2).f0) = 0 then (if ((rd_T43 l0_3 x31_2).f0) = 3 then (if ((rd_T43 l0_3 x31_2).f1) = ((rd_T39 l0_0 x31_2).f3) then (some false) else (some false)) else (if ((rd_T43 l0_3 x31_2).f1) = ((rd_T39 l0_0 x31_2).f3) then (some false) else (impl_runOk.l0 k2 l0_3 (l0_3.length : Int) (wrap64 (x31_2 + 1)) l0_0 l0_1 a0_2 l0_3))) else (if ((rd_T43 l0_3 x31_2).f1) = 0 then (some false) else ((impl_Run_done.f k2 l0_0 l0_1 a0_2 l0_3 x31_2).bind fun t160 => (if t160 = true then (if ((rd_T43 l0_3 x31_2).f0) = 3 then (if ((rd_T43 l0_3 x31_2).f1) = ((rd_T39 l0_0 x31_2).f3) then (impl_runOk.l0 k2 l0_3 (l0_3.length : Int) (wrap64 (x31_2 + 1)) l0_0 l0_1 a0_2 l0_3) else (some false)) else (impl_runOk.l0 k2 l0_3 (l0_3.length : Int) (wrap64 (x31_2 + 1)) l0_0 l0_1 a0_2 l0_3)) else (some false))))) else (some false)) = some r := H
        have A24 := Aside0.mk A240; clear A240
        by_cases c25 : t159 = true
        ·subst c25
         replace H := ifT_ H
         by_cases c26 : ((rd_T43 l0_3 x31_2).f0) = 0
         ·rw [if_pos c26] at H
          have c26b0 := beq_iff_eq.mpr c26
          have c26b1 := bne_eq_false_iff_eq.mpr c26
          clear c26
          by_cases c27 : ((rd_T43 l0_3 x31_2).f0) = 3
          ·rw [if_pos c27] at H
           have c27b0 := beq_iff_eq.mpr c27
           have c27b1 := bne_eq_false_iff_eq.mpr c27
           clear c27
           by_cases c28 : ((rd_T43 l0_3 x31_2).f1) = ((rd_T39 l0_0 x31_2).f3)
           ·rw [if_pos c28] at H
            have c28b0 := beq_iff_eq.mpr c28
            have c28b1 := bne_eq_false_iff_eq.mpr c28
            clear c28
            obtain rfl := Option.some.inj H
            have p155 : 0 ≤ (x31_2 : Int) := dA_
            have q155 : x31_2 < (l0_3.length : Int) := dA_
            obtain ⟨ad155, e155, hx155_0, hx155_1⟩ := at_T43 HR0_3.out x31_2 p155 q155
            cases e155
            replace hx155_0 := hX_ HB hx155_0
            replace hx155_1 := hX_ HB hx155_1
            replace p155 := eq_true p155; replace q155 := eq_true q155
            go_wp2_with (first | ((with_reducible refine gate_dst (N := 4) rfl ?_); (try (refine gate_guard (by rfl) ?_; dsimp only)); refine box_event ?hg (N := 4) ?hd (cs := #[.int .i64 0, .int .i64 0]) (t := 43) ?hr ?_; (case hd => rfl); (case hg => rfl); (case hr => first | (go_simp; done) | (go_simp; rfl)); intro gb156 hg w29 hbox hb; have BK156 := Aside0.mk (hbox); have GW156 := gE_ HB hg; have GE156 := gE_ HB hg; replace HB := bS_ HB hb; have NB151_156 := nL_ BK151 hg; have NB156_151 := nG_ BK151 hg; replace BK151 := bB_ BK151 hb; clear hb hbox hg; have hnb30 := NB156_151.out; have hnc30 := NB151_156.out; obtain ⟨hcz31_0, hcz31_1, hfz31_0, hfz31_1⟩ := cf2_ BK156; obtain ⟨hcz32_0, hcz32_1, hcz32_2, hcz32_3, hfz32_0, hfz32_1, hfz32_2, hfz32_3⟩ := cf4_ BK151; have p157 : 0 ≤ (x31_2 : Int) := dA_; have q157 : x31_2 < (l0_0.length : Int) := dA_; obtain ⟨ad157, A157_0, c157_0, e157, hx157_0, hx157_1, hx157_2, hx157_3, hl157_0, hi157_0⟩ := at_T39 HR0_0.out x31_2 p157 q157; cases e157; have hn157_0 : ad157.block ≠ gb156 := Nat.ne_of_lt (Nat.lt_of_lt_of_le (by have := World.block_lt_of_cell? _ _ hx157_0; first | rwa [add_block] at this | exact this) GW156.out); have hn157_1 : ad157.block ≠ gb156 := Nat.ne_of_lt (Nat.lt_of_lt_of_le (by have := World.block_lt_of_cell? _ _ hx157_0; first | rwa [add_block] at this | exact this) GW156.out); replace hx157_0 := hX_ HB hx157_0; replace hx157_1 := hX_ HB hx157_1; replace hx157_2 := hX_ HB hx157_2; replace hx157_3 := hX_ HB hx157_3; have HR157_0 := Aside0.mk hi157_0; have HC157_0 := Aside0.mk hl157_0; clear hi157_0 hl157_0; replace hx157_0 := cFr_ hx157_0 ⟨gb156, 0, none⟩ (.int .i64 ((rd_T43 l0_3 x31_2).f0)) hn157_0; replace hx157_1 := cFr_ hx157_1 ⟨gb156, 0, none⟩ (.int .i64 ((rd_T43 l0_3 x31_2).f0)) hn157_0; replace hx157_2 := cFr_ hx157_2 ⟨gb156, 0, none⟩ (.int .i64 ((rd_T43 l0_3 x31_2).f0)) hn157_0; replace hx157_3 := cFr_ hx157_3 ⟨gb156, 0, none⟩ (.int .i64 ((rd_T43 l0_3 x31_2).f0)) hn157_0; replace hx157_0 := cFr_ hx157_0 ⟨gb156, 1, none⟩ (.int .i64 ((rd_T43 l0_3 x31_2).f1)) hn157_1; replace hx157_1 := cFr_ hx157_1 ⟨gb156, 1, none⟩ (.int .i64 ((rd_T43 l0_3 x31_2).f1)) hn157_1; replace hx157_2 := cFr_ hx157_2 ⟨gb156, 1, none⟩ (.int .i64 ((rd_T43 l0_3 x31_2).f1)) hn157_1; replace hx157_3 := cFr_ hx157_3 ⟨gb156, 1, none⟩ (.int .i64 ((rd_T43 l0_3 x31_2).f1)) hn157_1; clear hn157_0; clear hn157_1; replace p157 := eq_true p157; replace q157 := eq_true q157) | ((with_reducible refine gate_callee (f := 52) rfl ?_); refine gL_ (some 45) Try.func52 #[.int .i64 ((rd_T43 l0_3 x31_2).f0), .int .i64 0, .int .i64 3] ?_; (with_reducible refine (impl_in.calls ((rd_T43 l0_3 x31_2).f0) 0 3 true _ A22.out).mono ?_); rintro e w' ⟨rfl, ⟨nd, rfl⟩⟩; refine ⟨_, rfl, ?_⟩) | (go_at_call 52; (with_reducible refine (impl_in.calls ((rd_T43 l0_3 x31_2).f1) 0 ((rd_T39 l0_0 x31_2).f3) true _ A24.out).mono ?_); rintro e w' ⟨rfl, ⟨nd, rfl⟩⟩))
            go_ret
            exact ⟨by first | rfl | (simp [errW_none, errW_some] <;> rfl) | (simp [*, errW_none, errW_some] <;> rfl), sABelo_6⟩
           ·rw [if_neg c28] at H
            have c28b0 := beq_eq_false_iff_ne.mpr c28
            have c28b1 := bne_iff_ne.mpr c28
            obtain rfl := Option.some.inj H
            have p155 : 0 ≤ (x31_2 : Int) := dA_
            have q155 : x31_2 < (l0_3.length : Int) := dA_
            obtain ⟨ad155, e155, hx155_0, hx155_1⟩ := at_T43 HR0_3.out x31_2 p155 q155
            cases e155
            replace hx155_0 := hX_ HB hx155_0
            replace hx155_1 := hX_ HB hx155_1
            replace p155 := eq_true p155; replace q155 := eq_true q155
            go_wp2_with (first | ((with_reducible refine gate_dst (N := 4) rfl ?_); (try (refine gate_guard (by rfl) ?_; dsimp only)); refine box_event ?hg (N := 4) ?hd (cs := #[.int .i64 0, .int .i64 0]) (t := 43) ?hr ?_; (case hd => rfl); (case hg => rfl); (case hr => first | (go_simp; done) | (go_simp; rfl)); intro gb156 hg w33 hbox hb; have BK156 := Aside0.mk (hbox); have GW156 := gE_ HB hg; have GE156 := gE_ HB hg; replace HB := bS_ HB hb; have NB151_156 := nL_ BK151 hg; have NB156_151 := nG_ BK151 hg; replace BK151 := bB_ BK151 hb; clear hb hbox hg; have hnb34 := NB156_151.out; have hnc34 := NB151_156.out; obtain ⟨hcz35_0, hcz35_1, hfz35_0, hfz35_1⟩ := cf2_ BK156; obtain ⟨hcz36_0, hcz36_1, hcz36_2, hcz36_3, hfz36_0, hfz36_1, hfz36_2, hfz36_3⟩ := cf4_ BK151; have p157 : 0 ≤ (x31_2 : Int) := dA_; have q157 : x31_2 < (l0_0.length : Int) := dA_; obtain ⟨ad157, A157_0, c157_0, e157, hx157_0, hx157_1, hx157_2, hx157_3, hl157_0, hi157_0⟩ := at_T39 HR0_0.out x31_2 p157 q157; cases e157; have hn157_0 : ad157.block ≠ gb156 := Nat.ne_of_lt (Nat.lt_of_lt_of_le (by have := World.block_lt_of_cell? _ _ hx157_0; first | rwa [add_block] at this | exact this) GW156.out); have hn157_1 : ad157.block ≠ gb156 := Nat.ne_of_lt (Nat.lt_of_lt_of_le (by have := World.block_lt_of_cell? _ _ hx157_0; first | rwa [add_block] at this | exact this) GW156.out); replace hx157_0 := hX_ HB hx157_0; replace hx157_1 := hX_ HB hx157_1; replace hx157_2 := hX_ HB hx157_2; replace hx157_3 := hX_ HB hx157_3; have HR157_0 := Aside0.mk hi157_0; have HC157_0 := Aside0.mk hl157_0; clear hi157_0 hl157_0; replace hx157_0 := cFr_ hx157_0 ⟨gb156, 0, none⟩ (.int .i64 ((rd_T43 l0_3 x31_2).f0)) hn157_0; replace hx157_1 := cFr_ hx157_1 ⟨gb156, 0, none⟩ (.int .i64 ((rd_T43 l0_3 x31_2).f0)) hn157_0; replace hx157_2 := cFr_ hx157_2 ⟨gb156, 0, none⟩ (.int .i64 ((rd_T43 l0_3 x31_2).f0)) hn157_0; replace hx157_3 := cFr_ hx157_3 ⟨gb156, 0, none⟩ (.int .i64 ((rd_T43 l0_3 x31_2).f0)) hn157_0; replace hx157_0 := cFr_ hx157_0 ⟨gb156, 1, none⟩ (.int .i64 ((rd_T43 l0_3 x31_2).f1)) hn157_1; replace hx157_1 := cFr_ hx157_1 ⟨gb156, 1, none⟩ (.int .i64 ((rd_T43 l0_3 x31_2).f1)) hn157_1; replace hx157_2 := cFr_ hx157_2 ⟨gb156, 1, none⟩ (.int .i64 ((rd_T43 l0_3 x31_2).f1)) hn157_1; replace hx157_3 := cFr_ hx157_3 ⟨gb156, 1, none⟩ (.int .i64 ((rd_T43 l0_3 x31_2).f1)) hn157_1; clear hn157_0; clear hn157_1; replace p157 := eq_true p157; replace q157 := eq_true q157) | ((with_reducible refine gate_callee (f := 52) rfl ?_); refine gL_ (some 45) Try.func52 #[.int .i64 ((rd_T43 l0_3 x31_2).f0), .int .i64 0, .int .i64 3] ?_; (with_reducible refine (impl_in.calls ((rd_T43 l0_3 x31_2).f0) 0 3 true _ A22.out).mono ?_); rintro e w' ⟨rfl, ⟨nd, rfl⟩⟩; refine ⟨_, rfl, ?_⟩) | (go_at_call 52; (with_reducible refine (impl_in.calls ((rd_T43 l0_3 x31_2).f1) 0 ((rd_T39 l0_0 x31_2).f3) true _ A24.out).mono ?_); rintro e w' ⟨rfl, ⟨nd, rfl⟩⟩))
            go_ret
            exact ⟨by first | rfl | (simp [errW_none, errW_some] <;> rfl) | (simp [*, errW_none, errW_some] <;> rfl), sABelo_6⟩
          ·rw [if_neg c27] at H
           have c27b0 := beq_eq_false_iff_ne.mpr c27
           have c27b1 := bne_iff_ne.mpr c27
           by_cases c37 : ((rd_T43 l0_3 x31_2).f1) = ((rd_T39 l0_0 x31_2).f3)
           ·rw [if_pos c37] at H
            have c37b0 := beq_iff_eq.mpr c37
            have c37b1 := bne_eq_false_iff_eq.mpr c37
            clear c37
            obtain rfl := Option.some.inj H
            have p155 : 0 ≤ (x31_2 : Int) := dA_
            have q155 : x31_2 < (l0_3.length : Int) := dA_
            obtain ⟨ad155, e155, hx155_0, hx155_1⟩ := at_T43 HR0_3.out x31_2 p155 q155
            cases e155
            replace hx155_0 := hX_ HB hx155_0
            replace hx155_1 := hX_ HB hx155_1
            replace p155 := eq_true p155; replace q155 := eq_true q155
            go_wp2_with (first | ((with_reducible refine gate_dst (N := 4) rfl ?_); (try (refine gate_guard (by rfl) ?_; dsimp only)); refine box_event ?hg (N := 4) ?hd (cs := #[.int .i64 0, .int .i64 0]) (t := 43) ?hr ?_; (case hd => rfl); (case hg => rfl); (case hr => first | (go_simp; done) | (go_simp; rfl)); intro gb156 hg w38 hbox hb; have BK156 := Aside0.mk (hbox); have GW156 := gE_ HB hg; have GE156 := gE_ HB hg; replace HB := bS_ HB hb; have NB151_156 := nL_ BK151 hg; have NB156_151 := nG_ BK151 hg; replace BK151 := bB_ BK151 hb; clear hb hbox hg; have hnb39 := NB156_151.out; have hnc39 := NB151_156.out; obtain ⟨hcz40_0, hcz40_1, hfz40_0, hfz40_1⟩ := cf2_ BK156; obtain ⟨hcz41_0, hcz41_1, hcz41_2, hcz41_3, hfz41_0, hfz41_1, hfz41_2, hfz41_3⟩ := cf4_ BK151; have p157 : 0 ≤ (x31_2 : Int) := dA_; have q157 : x31_2 < (l0_0.length : Int) := dA_; obtain ⟨ad157, A157_0, c157_0, e157, hx157_0, hx157_1, hx157_2, hx157_3, hl157_0, hi157_0⟩ := at_T39 HR0_0.out x31_2 p157 q157; cases e157; have hn157_0 : ad157.block ≠ gb156 := Nat.ne_of_lt (Nat.lt_of_lt_of_le (by have := World.block_lt_of_cell? _ _ hx157_0; first | rwa [add_block] at this | exact this) GW156.out); have hn157_1 : ad157.block ≠ gb156 := Nat.ne_of_lt (Nat.lt_of_lt_of_le (by have := World.block_lt_of_cell? _ _ hx157_0; first | rwa [add_block] at this | exact this) GW156.out); replace hx157_0 := hX_ HB hx157_0; replace hx157_1 := hX_ HB hx157_1; replace hx157_2 := hX_ HB hx157_2; replace hx157_3 := hX_ HB hx157_3; have HR157_0 := Aside0.mk hi157_0; have HC157_0 := Aside0.mk hl157_0; clear hi157_0 hl157_0; replace hx157_0 := cFr_ hx157_0 ⟨gb156, 0, none⟩ (.int .i64 ((rd_T43 l0_3 x31_2).f0)) hn157_0; replace hx157_1 := cFr_ hx157_1 ⟨gb156, 0, none⟩ (.int .i64 ((rd_T43 l0_3 x31_2).f0)) hn157_0; replace hx157_2 := cFr_ hx157_2 ⟨gb156, 0, none⟩ (.int .i64 ((rd_T43 l0_3 x31_2).f0)) hn157_0; replace hx157_3 := cFr_ hx157_3 ⟨gb156, 0, none⟩ (.int .i64 ((rd_T43 l0_3 x31_2).f0)) hn157_0; replace hx157_0 := cFr_ hx157_0 ⟨gb156, 1, none⟩ (.int .i64 ((rd_T43 l0_3 x31_2).f1)) hn157_1; replace hx157_1 := cFr_ hx157_1 ⟨gb156, 1, none⟩ (.int .i64 ((rd_T43 l0_3 x31_2).f1)) hn157_1; replace hx157_2 := cFr_ hx157_2 ⟨gb156, 1, none⟩ (.int .i64 ((rd_T43 l0_3 x31_2).f1)) hn157_1; replace hx157_3 := cFr_ hx157_3 ⟨gb156, 1, none⟩ (.int .i64 ((rd_T43 l0_3 x31_2).f1)) hn157_1; clear hn157_0; clear hn157_1; replace p157 := eq_true p157; replace q157 := eq_true q157) | ((with_reducible refine gate_callee (f := 52) rfl ?_); refine gL_ (some 45) Try.func52 #[.int .i64 ((rd_T43 l0_3 x31_2).f0), .int .i64 0, .int .i64 3] ?_; (with_reducible refine (impl_in.calls ((rd_T43 l0_3 x31_2).f0) 0 3 true _ A22.out).mono ?_); rintro e w' ⟨rfl, ⟨nd, rfl⟩⟩; refine ⟨_, rfl, ?_⟩) | (go_at_call 52; (with_reducible refine (impl_in.calls ((rd_T43 l0_3 x31_2).f1) 0 ((rd_T39 l0_0 x31_2).f3) true _ A24.out).mono ?_); rintro e w' ⟨rfl, ⟨nd, rfl⟩⟩))
            go_ret
            exact ⟨by first | rfl | (simp [errW_none, errW_some] <;> rfl) | (simp [*, errW_none, errW_some] <;> rfl), sABelo_6⟩
           ·rw [if_neg c37] at H
            have c37b0 := beq_eq_false_iff_ne.mpr c37
            have c37b1 := bne_iff_ne.mpr c37
            have H' := Aside0.mk H; clear H
            have p155 : 0 ≤ (x31_2 : Int) := dA_
            have q155 : x31_2 < (l0_3.length : Int) := dA_
            obtain ⟨ad155, e155, hx155_0, hx155_1⟩ := at_T43 HR0_3.out x31_2 p155 q155
            cases e155
            replace hx155_0 := hX_ HB hx155_0
            replace hx155_1 := hX_ HB hx155_1
            replace p155 := eq_true p155; replace q155 := eq_true q155
            go_wp2_with (first | ((with_reducible refine gate_dst (N := 4) rfl ?_); (try (refine gate_guard (by rfl) ?_; dsimp only)); refine box_event ?hg (N := 4) ?hd (cs := #[.int .i64 0, .int .i64 0]) (t := 43) ?hr ?_; (case hd => rfl); (case hg => rfl); (case hr => first | (go_simp; done) | (go_simp; rfl)); intro gb156 hg w42 hbox hb; have BK156 := Aside0.mk (hbox); have GW156 := gE_ HB hg; have GE156 := gE_ HB hg; replace HB := bS_ HB hb; have NB151_156 := nL_ BK151 hg; have NB156_151 := nG_ BK151 hg; replace BK151 := bB_ BK151 hb; clear hb hbox hg; have hnb43 := NB156_151.out; have hnc43 := NB151_156.out; obtain ⟨hcz44_0, hcz44_1, hfz44_0, hfz44_1⟩ := cf2_ BK156; obtain ⟨hcz45_0, hcz45_1, hcz45_2, hcz45_3, hfz45_0, hfz45_1, hfz45_2, hfz45_3⟩ := cf4_ BK151; have p157 : 0 ≤ (x31_2 : Int) := dA_; have q157 : x31_2 < (l0_0.length : Int) := dA_; obtain ⟨ad157, A157_0, c157_0, e157, hx157_0, hx157_1, hx157_2, hx157_3, hl157_0, hi157_0⟩ := at_T39 HR0_0.out x31_2 p157 q157; cases e157; have hn157_0 : ad157.block ≠ gb156 := Nat.ne_of_lt (Nat.lt_of_lt_of_le (by have := World.block_lt_of_cell? _ _ hx157_0; first | rwa [add_block] at this | exact this) GW156.out); have hn157_1 : ad157.block ≠ gb156 := Nat.ne_of_lt (Nat.lt_of_lt_of_le (by have := World.block_lt_of_cell? _ _ hx157_0; first | rwa [add_block] at this | exact this) GW156.out); replace hx157_0 := hX_ HB hx157_0; replace hx157_1 := hX_ HB hx157_1; replace hx157_2 := hX_ HB hx157_2; replace hx157_3 := hX_ HB hx157_3; have HR157_0 := Aside0.mk hi157_0; have HC157_0 := Aside0.mk hl157_0; clear hi157_0 hl157_0; replace hx157_0 := cFr_ hx157_0 ⟨gb156, 0, none⟩ (.int .i64 ((rd_T43 l0_3 x31_2).f0)) hn157_0; replace hx157_1 := cFr_ hx157_1 ⟨gb156, 0, none⟩ (.int .i64 ((rd_T43 l0_3 x31_2).f0)) hn157_0; replace hx157_2 := cFr_ hx157_2 ⟨gb156, 0, none⟩ (.int .i64 ((rd_T43 l0_3 x31_2).f0)) hn157_0; replace hx157_3 := cFr_ hx157_3 ⟨gb156, 0, none⟩ (.int .i64 ((rd_T43 l0_3 x31_2).f0)) hn157_0; replace hx157_0 := cFr_ hx157_0 ⟨gb156, 1, none⟩ (.int .i64 ((rd_T43 l0_3 x31_2).f1)) hn157_1; replace hx157_1 := cFr_ hx157_1 ⟨gb156, 1, none⟩ (.int .i64 ((rd_T43 l0_3 x31_2).f1)) hn157_1; replace hx157_2 := cFr_ hx157_2 ⟨gb156, 1, none⟩ (.int .i64 ((rd_T43 l0_3 x31_2).f1)) hn157_1; replace hx157_3 := cFr_ hx157_3 ⟨gb156, 1, none⟩ (.int .i64 ((rd_T43 l0_3 x31_2).f1)) hn157_1; clear hn157_0; clear hn157_1; replace p157 := eq_true p157; replace q157 := eq_true q157) | ((with_reducible refine gate_callee (f := 52) rfl ?_); refine gL_ (some 45) Try.func52 #[.int .i64 ((rd_T43 l0_3 x31_2).f0), .int .i64 0, .int .i64 3] ?_; (with_reducible refine (impl_in.calls ((rd_T43 l0_3 x31_2).f0) 0 3 true _ A22.out).mono ?_); rintro e w' ⟨rfl, ⟨nd, rfl⟩⟩; refine ⟨_, rfl, ?_⟩) | (go_at_call 52; (with_reducible refine (impl_in.calls ((rd_T43 l0_3 x31_2).f1) 0 ((rd_T39 l0_0 x31_2).f3) true _ A24.out).mono ?_); rintro e w' ⟨rfl, ⟨nd, rfl⟩⟩))
            go_roundg k2
            case measure => have := HJ1.out; have := HK2.out; omega
            case rel => exact ⟨(wrap64 (x31_2 + 1)), (by first | rfl | (simp; done) | (simp [*]; done)), H', ⟨by have := HJ1.out; have := HK2.out; omega⟩, ⟨bF_ BK151 NB151_156⟩, ⟨sABelo_6⟩⟩
         ·rw [if_neg c26] at H
          have c26b0 := beq_eq_false_iff_ne.mpr c26
          have c26b1 := bne_iff_ne.mpr c26
          by_cases c46 : ((rd_T43 l0_3 x31_2).f1) = 0
          ·rw [if_pos c46] at H
           have c46b0 := beq_iff_eq.mpr c46
           have c46b1 := bne_eq_false_iff_eq.mpr c46
           clear c46
           obtain rfl := Option.some.inj H
           have p155 : 0 ≤ (x31_2 : Int) := dA_
           have q155 : x31_2 < (l0_3.length : Int) := dA_
           obtain ⟨ad155, e155, hx155_0, hx155_1⟩ := at_T43 HR0_3.out x31_2 p155 q155
           cases e155
           replace hx155_0 := hX_ HB hx155_0
           replace hx155_1 := hX_ HB hx155_1
           replace p155 := eq_true p155; replace q155 := eq_true q155
           go_wp2_with (first | ((with_reducible refine gate_dst (N := 4) rfl ?_); (try (refine gate_guard (by rfl) ?_; dsimp only)); refine box_event ?hg (N := 4) ?hd (cs := #[.int .i64 0, .int .i64 0]) (t := 43) ?hr ?_; (case hd => rfl); (case hg => rfl); (case hr => first | (go_simp; done) | (go_simp; rfl)); intro gb156 hg w47 hbox hb; have BK156 := Aside0.mk (hbox); have GW156 := gE_ HB hg; have GE156 := gE_ HB hg; replace HB := bS_ HB hb; have NB151_156 := nL_ BK151 hg; have NB156_151 := nG_ BK151 hg; replace BK151 := bB_ BK151 hb; clear hb hbox hg; have hnb48 := NB156_151.out; have hnc48 := NB151_156.out; obtain ⟨hcz49_0, hcz49_1, hfz49_0, hfz49_1⟩ := cf2_ BK156; obtain ⟨hcz50_0, hcz50_1, hcz50_2, hcz50_3, hfz50_0, hfz50_1, hfz50_2, hfz50_3⟩ := cf4_ BK151; have p157 : 0 ≤ (x31_2 : Int) := dA_; have q157 : x31_2 < (l0_0.length : Int) := dA_; obtain ⟨ad157, A157_0, c157_0, e157, hx157_0, hx157_1, hx157_2, hx157_3, hl157_0, hi157_0⟩ := at_T39 HR0_0.out x31_2 p157 q157; cases e157; have hn157_0 : ad157.block ≠ gb156 := Nat.ne_of_lt (Nat.lt_of_lt_of_le (by have := World.block_lt_of_cell? _ _ hx157_0; first | rwa [add_block] at this | exact this) GW156.out); have hn157_1 : ad157.block ≠ gb156 := Nat.ne_of_lt (Nat.lt_of_lt_of_le (by have := World.block_lt_of_cell? _ _ hx157_0; first | rwa [add_block] at this | exact this) GW156.out); replace hx157_0 := hX_ HB hx157_0; replace hx157_1 := hX_ HB hx157_1; replace hx157_2 := hX_ HB hx157_2; replace hx157_3 := hX_ HB hx157_3; have HR157_0 := Aside0.mk hi157_0; have HC157_0 := Aside0.mk hl157_0; clear hi157_0 hl157_0; replace hx157_0 := cFr_ hx157_0 ⟨gb156, 0, none⟩ (.int .i64 ((rd_T43 l0_3 x31_2).f0)) hn157_0; replace hx157_1 := cFr_ hx157_1 ⟨gb156, 0, none⟩ (.int .i64 ((rd_T43 l0_3 x31_2).f0)) hn157_0; replace hx157_2 := cFr_ hx157_2 ⟨gb156, 0, none⟩ (.int .i64 ((rd_T43 l0_3 x31_2).f0)) hn157_0; replace hx157_3 := cFr_ hx157_3 ⟨gb156, 0, none⟩ (.int .i64 ((rd_T43 l0_3 x31_2).f0)) hn157_0; replace hx157_0 := cFr_ hx157_0 ⟨gb156, 1, none⟩ (.int .i64 ((rd_T43 l0_3 x31_2).f1)) hn157_1; replace hx157_1 := cFr_ hx157_1 ⟨gb156, 1, none⟩ (.int .i64 ((rd_T43 l0_3 x31_2).f1)) hn157_1; replace hx157_2 := cFr_ hx157_2 ⟨gb156, 1, none⟩ (.int .i64 ((rd_T43 l0_3 x31_2).f1)) hn157_1; replace hx157_3 := cFr_ hx157_3 ⟨gb156, 1, none⟩ (.int .i64 ((rd_T43 l0_3 x31_2).f1)) hn157_1; clear hn157_0; clear hn157_1; replace p157 := eq_true p157; replace q157 := eq_true q157) | ((with_reducible refine gate_callee (f := 52) rfl ?_); refine gL_ (some 45) Try.func52 #[.int .i64 ((rd_T43 l0_3 x31_2).f0), .int .i64 0, .int .i64 3] ?_; (with_reducible refine (impl_in.calls ((rd_T43 l0_3 x31_2).f0) 0 3 true _ A22.out).mono ?_); rintro e w' ⟨rfl, ⟨nd, rfl⟩⟩; refine ⟨_, rfl, ?_⟩) | (go_at_call 52; (with_reducible refine (impl_in.calls ((rd_T43 l0_3 x31_2).f1) 0 ((rd_T39 l0_0 x31_2).f3) true _ A24.out).mono ?_); rintro e w' ⟨rfl, ⟨nd, rfl⟩⟩))
           go_ret
           exact ⟨by first | rfl | (simp [errW_none, errW_some] <;> rfl) | (simp [*, errW_none, errW_some] <;> rfl), sABelo_6⟩
          ·rw [if_neg c46] at H
           have c46b0 := beq_eq_false_iff_ne.mpr c46
           have c46b1 := bne_iff_ne.mpr c46
           replace H := Option.bind_eq_some_iff.mp H
           obtain ⟨t160, A510, H⟩ := H
           replace H : (if t160 = true then (if ((rd_T43 l0_3 x31_2).f0) = 3 then (if ((rd_T43 l0_3 x31_2).f1) = ((rd_T39 l0_0 x31_2).f3) then (impl_runOk.l0 k2 l0_3 (l0_3.length : Int) (wrap64 (x31_2 + 1)) l0_0 l0_1 a0_2 l0_3) else (some false)) else (impl_runOk.l0 k2 l0_3 (l0_3.length : Int) (wrap64 (x31_2 + 1)) l0_0 l0_1 a0_2 l0_3)) else (some false)) = some r := H
           have A51 := Aside0.mk A510; clear A510
           by_cases c52 : t160 = true
           ·subst c52
            replace H := ifT_ H
            by_cases c53 : ((rd_T43 l0_3 x31_2).f0) = 3
            ·rw [if_pos c53] at H
             have c53b0 := beq_iff_eq.mpr c53
             have c53b1 := bne_eq_false_iff_eq.mpr c53
             clear c53
             by_cases c54 : ((rd_T43 l0_3 x31_2).f1) = ((rd_T39 l0_0 x31_2).f3)
             ·rw [if_pos c54] at H
              have c54b0 := beq_iff_eq.mpr c54
              have c54b1 := bne_eq_false_iff_eq.mpr c54
              clear c54; have H' := Aside0.mk H; clear H
              have p155 : 0 ≤ (x31_2 : Int) := dA_
              have q155 : x31_2 < (l0_3.length : Int) := dA_
              obtain ⟨ad155, e155, hx155_0, hx155_1⟩ := at_T43 HR0_3.out x31_2 p155 q155
              cases e155
              replace hx155_0 := hX_ HB hx155_0
              replace hx155_1 := hX_ HB hx155_1
              replace p155 := eq_true p155; replace q155 := eq_true q155
              go_wp2_with (first | ((with_reducible refine gate_dst (N := 4) rfl ?_); (try (refine gate_guard (by rfl) ?_; dsimp only)); refine box_event ?hg (N := 4) ?hd (cs := #[.int .i64 0, .int .i64 0]) (t := 43) ?hr ?_; (case hd => rfl); (case hg => rfl); (case hr => first | (go_simp; done) | (go_simp; rfl)); intro gb156 hg w55 hbox hb; have BK156 := Aside0.mk (hbox); have GW156 := gE_ HB hg; have GE156 := gE_ HB hg; replace HB := bS_ HB hb; have NB151_156 := nL_ BK151 hg; have NB156_151 := nG_ BK151 hg; replace BK151 := bB_ BK151 hb; clear hb hbox hg; have hnb56 := NB156_151.out; have hnc56 := NB151_156.out; obtain ⟨hcz57_0, hcz57_1, hfz57_0, hfz57_1⟩ := cf2_ BK156; obtain ⟨hcz58_0, hcz58_1, hcz58_2, hcz58_3, hfz58_0, hfz58_1, hfz58_2, hfz58_3⟩ := cf4_ BK151; have p157 : 0 ≤ (x31_2 : Int) := dA_; have q157 : x31_2 < (l0_0.length : Int) := dA_; obtain ⟨ad157, A157_0, c157_0, e157, hx157_0, hx157_1, hx157_2, hx157_3, hl157_0, hi157_0⟩ := at_T39 HR0_0.out x31_2 p157 q157; cases e157; have hn157_0 : ad157.block ≠ gb156 := Nat.ne_of_lt (Nat.lt_of_lt_of_le (by have := World.block_lt_of_cell? _ _ hx157_0; first | rwa [add_block] at this | exact this) GW156.out); have hn157_1 : ad157.block ≠ gb156 := Nat.ne_of_lt (Nat.lt_of_lt_of_le (by have := World.block_lt_of_cell? _ _ hx157_0; first | rwa [add_block] at this | exact this) GW156.out); replace hx157_0 := hX_ HB hx157_0; replace hx157_1 := hX_ HB hx157_1; replace hx157_2 := hX_ HB hx157_2; replace hx157_3 := hX_ HB hx157_3; have HR157_0 := Aside0.mk hi157_0; have HC157_0 := Aside0.mk hl157_0; clear hi157_0 hl157_0; replace hx157_0 := cFr_ hx157_0 ⟨gb156, 0, none⟩ (.int .i64 ((rd_T43 l0_3 x31_2).f0)) hn157_0; replace hx157_1 := cFr_ hx157_1 ⟨gb156, 0, none⟩ (.int .i64 ((rd_T43 l0_3 x31_2).f0)) hn157_0; replace hx157_2 := cFr_ hx157_2 ⟨gb156, 0, none⟩ (.int .i64 ((rd_T43 l0_3 x31_2).f0)) hn157_0; replace hx157_3 := cFr_ hx157_3 ⟨gb156, 0, none⟩ (.int .i64 ((rd_T43 l0_3 x31_2).f0)) hn157_0; replace hx157_0 := cFr_ hx157_0 ⟨gb156, 1, none⟩ (.int .i64 ((rd_T43 l0_3 x31_2).f1)) hn157_1; replace hx157_1 := cFr_ hx157_1 ⟨gb156, 1, none⟩ (.int .i64 ((rd_T43 l0_3 x31_2).f1)) hn157_1; replace hx157_2 := cFr_ hx157_2 ⟨gb156, 1, none⟩ (.int .i64 ((rd_T43 l0_3 x31_2).f1)) hn157_1; replace hx157_3 := cFr_ hx157_3 ⟨gb156, 1, none⟩ (.int .i64 ((rd_T43 l0_3 x31_2).f1)) hn157_1; clear hn157_0; clear hn157_1; replace p157 := eq_true p157; replace q157 := eq_true q157) | ((with_reducible refine gate_callee (f := 52) rfl ?_); refine gL_ (some 45) Try.func52 #[.int .i64 ((rd_T43 l0_3 x31_2).f0), .int .i64 0, .int .i64 3] ?_; (with_reducible refine (impl_in.calls ((rd_T43 l0_3 x31_2).f0) 0 3 true _ A22.out).mono ?_); rintro e w' ⟨rfl, ⟨nd, rfl⟩⟩; refine ⟨_, rfl, ?_⟩) | (go_at_call 52; (with_reducible refine (impl_in.calls ((rd_T43 l0_3 x31_2).f1) 0 ((rd_T39 l0_0 x31_2).f3) true _ A24.out).mono ?_); rintro e w' ⟨rfl, ⟨nd, rfl⟩⟩) | (go_at_call 51; (with_reducible refine (impl_Run_done.calls k2 _ _ l0_0 _ _ l0_1 a0_2 _ _ l0_3 x31_2 true _ ?side1 ?side2 ?side3 ?side4 ?side5 ?side6 A51.out).mono ?_); (case side1 => exact cBF_ HR0_0 HB GE156); (case side2 => exact HC0_0.out); (case side3 => exact cBF_ HR0_1 HB GE156); (case side4 => exact HC0_1.out); (case side5 => exact cBF_ HR0_3 HB GE156); (case side6 => exact HC0_3.out); rintro e w59 ⟨rfl, hb⟩; replace BK151 := bBF_ BK151 NB151_156 hb; replace BK156 := Aside0.mk (blk_below (g := gb156) (o := .cells #[.int .i64 ((rd_T43 l0_3 x31_2).f0), .int .i64 ((rd_T43 l0_3 x31_2).f1)] 43 (0, 0)) (bP_ BK156) hb); replace HB := bSF_ HB GE156 hb; (try clear hb); obtain ⟨hcz60_0, hcz60_1, hfz60_0, hfz60_1⟩ := cf2_ BK156))
              go_roundg k2
              case measure => have := HJ1.out; have := HK2.out; omega
              case rel => exact ⟨(wrap64 (x31_2 + 1)), (by first | rfl | (simp; done) | (simp [*]; done)), H', ⟨by have := HJ1.out; have := HK2.out; omega⟩, ⟨bT_ BK151⟩, ⟨sABelo_6⟩⟩
             ·rw [if_neg c54] at H
              have c54b0 := beq_eq_false_iff_ne.mpr c54
              have c54b1 := bne_iff_ne.mpr c54
              obtain rfl := Option.some.inj H
              have p155 : 0 ≤ (x31_2 : Int) := dA_
              have q155 : x31_2 < (l0_3.length : Int) := dA_
              obtain ⟨ad155, e155, hx155_0, hx155_1⟩ := at_T43 HR0_3.out x31_2 p155 q155
              cases e155
              replace hx155_0 := hX_ HB hx155_0
              replace hx155_1 := hX_ HB hx155_1
              replace p155 := eq_true p155; replace q155 := eq_true q155
              go_wp2_with (first | ((with_reducible refine gate_dst (N := 4) rfl ?_); (try (refine gate_guard (by rfl) ?_; dsimp only)); refine box_event ?hg (N := 4) ?hd (cs := #[.int .i64 0, .int .i64 0]) (t := 43) ?hr ?_; (case hd => rfl); (case hg => rfl); (case hr => first | (go_simp; done) | (go_simp; rfl)); intro gb156 hg w61 hbox hb; have BK156 := Aside0.mk (hbox); have GW156 := gE_ HB hg; have GE156 := gE_ HB hg; replace HB := bS_ HB hb; have NB151_156 := nL_ BK151 hg; have NB156_151 := nG_ BK151 hg; replace BK151 := bB_ BK151 hb; clear hb hbox hg; have hnb62 := NB156_151.out; have hnc62 := NB151_156.out; obtain ⟨hcz63_0, hcz63_1, hfz63_0, hfz63_1⟩ := cf2_ BK156; obtain ⟨hcz64_0, hcz64_1, hcz64_2, hcz64_3, hfz64_0, hfz64_1, hfz64_2, hfz64_3⟩ := cf4_ BK151; have p157 : 0 ≤ (x31_2 : Int) := dA_; have q157 : x31_2 < (l0_0.length : Int) := dA_; obtain ⟨ad157, A157_0, c157_0, e157, hx157_0, hx157_1, hx157_2, hx157_3, hl157_0, hi157_0⟩ := at_T39 HR0_0.out x31_2 p157 q157; cases e157; have hn157_0 : ad157.block ≠ gb156 := Nat.ne_of_lt (Nat.lt_of_lt_of_le (by have := World.block_lt_of_cell? _ _ hx157_0; first | rwa [add_block] at this | exact this) GW156.out); have hn157_1 : ad157.block ≠ gb156 := Nat.ne_of_lt (Nat.lt_of_lt_of_le (by have := World.block_lt_of_cell? _ _ hx157_0; first | rwa [add_block] at this | exact this) GW156.out); replace hx157_0 := hX_ HB hx157_0; replace hx157_1 := hX_ HB hx157_1; replace hx157_2 := hX_ HB hx157_2; replace hx157_3 := hX_ HB hx157_3; have HR157_0 := Aside0.mk hi157_0; have HC157_0 := Aside0.mk hl157_0; clear hi157_0 hl157_0; replace hx157_0 := cFr_ hx157_0 ⟨gb156, 0, none⟩ (.int .i64 ((rd_T43 l0_3 x31_2).f0)) hn157_0; replace hx157_1 := cFr_ hx157_1 ⟨gb156, 0, none⟩ (.int .i64 ((rd_T43 l0_3 x31_2).f0)) hn157_0; replace hx157_2 := cFr_ hx157_2 ⟨gb156, 0, none⟩ (.int .i64 ((rd_T43 l0_3 x31_2).f0)) hn157_0; replace hx157_3 := cFr_ hx157_3 ⟨gb156, 0, none⟩ (.int .i64 ((rd_T43 l0_3 x31_2).f0)) hn157_0; replace hx157_0 := cFr_ hx157_0 ⟨gb156, 1, none⟩ (.int .i64 ((rd_T43 l0_3 x31_2).f1)) hn157_1; replace hx157_1 := cFr_ hx157_1 ⟨gb156, 1, none⟩ (.int .i64 ((rd_T43 l0_3 x31_2).f1)) hn157_1; replace hx157_2 := cFr_ hx157_2 ⟨gb156, 1, none⟩ (.int .i64 ((rd_T43 l0_3 x31_2).f1)) hn157_1; replace hx157_3 := cFr_ hx157_3 ⟨gb156, 1, none⟩ (.int .i64 ((rd_T43 l0_3 x31_2).f1)) hn157_1; clear hn157_0; clear hn157_1; replace p157 := eq_true p157; replace q157 := eq_true q157) | ((with_reducible refine gate_callee (f := 52) rfl ?_); refine gL_ (some 45) Try.func52 #[.int .i64 ((rd_T43 l0_3 x31_2).f0), .int .i64 0, .int .i64 3] ?_; (with_reducible refine (impl_in.calls ((rd_T43 l0_3 x31_2).f0) 0 3 true _ A22.out).mono ?_); rintro e w' ⟨rfl, ⟨nd, rfl⟩⟩; refine ⟨_, rfl, ?_⟩) | (go_at_call 52; (with_reducible refine (impl_in.calls ((rd_T43 l0_3 x31_2).f1) 0 ((rd_T39 l0_0 x31_2).f3) true _ A24.out).mono ?_); rintro e w' ⟨rfl, ⟨nd, rfl⟩⟩) | (go_at_call 51; (with_reducible refine (impl_Run_done.calls k2 _ _ l0_0 _ _ l0_1 a0_2 _ _ l0_3 x31_2 true _ ?side1 ?side2 ?side3 ?side4 ?side5 ?side6 A51.out).mono ?_); (case side1 => exact cBF_ HR0_0 HB GE156); (case side2 => exact HC0_0.out); (case side3 => exact cBF_ HR0_1 HB GE156); (case side4 => exact HC0_1.out); (case side5 => exact cBF_ HR0_3 HB GE156); (case side6 => exact HC0_3.out); rintro e w65 ⟨rfl, hb⟩; replace BK151 := bBF_ BK151 NB151_156 hb; replace BK156 := Aside0.mk (blk_below (g := gb156) (o := .cells #[.int .i64 ((rd_T43 l0_3 x31_2).f0), .int .i64 ((rd_T43 l0_3 x31_2).f1)] 43 (0, 0)) (bP_ BK156) hb); replace HB := bSF_ HB GE156 hb; (try clear hb); obtain ⟨hcz66_0, hcz66_1, hfz66_0, hfz66_1⟩ := cf2_ BK156))
              go_ret
              exact ⟨by first | rfl | (simp [errW_none, errW_some] <;> rfl) | (simp [*, errW_none, errW_some] <;> rfl), sABelo_6⟩
            ·rw [if_neg c53] at H
             have c53b0 := beq_eq_false_iff_ne.mpr c53
             have c53b1 := bne_iff_ne.mpr c53
             have H' := Aside0.mk H; clear H
             have p155 : 0 ≤ (x31_2 : Int) := dA_
             have q155 : x31_2 < (l0_3.length : Int) := dA_
             obtain ⟨ad155, e155, hx155_0, hx155_1⟩ := at_T43 HR0_3.out x31_2 p155 q155
             cases e155
             replace hx155_0 := hX_ HB hx155_0
             replace hx155_1 := hX_ HB hx155_1
             replace p155 := eq_true p155; replace q155 := eq_true q155
             go_wp2_with (first | ((with_reducible refine gate_dst (N := 4) rfl ?_); (try (refine gate_guard (by rfl) ?_; dsimp only)); refine box_event ?hg (N := 4) ?hd (cs := #[.int .i64 0, .int .i64 0]) (t := 43) ?hr ?_; (case hd => rfl); (case hg => rfl); (case hr => first | (go_simp; done) | (go_simp; rfl)); intro gb156 hg w67 hbox hb; have BK156 := Aside0.mk (hbox); have GW156 := gE_ HB hg; have GE156 := gE_ HB hg; replace HB := bS_ HB hb; have NB151_156 := nL_ BK151 hg; have NB156_151 := nG_ BK151 hg; replace BK151 := bB_ BK151 hb; clear hb hbox hg; have hnb68 := NB156_151.out; have hnc68 := NB151_156.out; obtain ⟨hcz69_0, hcz69_1, hfz69_0, hfz69_1⟩ := cf2_ BK156; obtain ⟨hcz70_0, hcz70_1, hcz70_2, hcz70_3, hfz70_0, hfz70_1, hfz70_2, hfz70_3⟩ := cf4_ BK151; have p157 : 0 ≤ (x31_2 : Int) := dA_; have q157 : x31_2 < (l0_0.length : Int) := dA_; obtain ⟨ad157, A157_0, c157_0, e157, hx157_0, hx157_1, hx157_2, hx157_3, hl157_0, hi157_0⟩ := at_T39 HR0_0.out x31_2 p157 q157; cases e157; have hn157_0 : ad157.block ≠ gb156 := Nat.ne_of_lt (Nat.lt_of_lt_of_le (by have := World.block_lt_of_cell? _ _ hx157_0; first | rwa [add_block] at this | exact this) GW156.out); have hn157_1 : ad157.block ≠ gb156 := Nat.ne_of_lt (Nat.lt_of_lt_of_le (by have := World.block_lt_of_cell? _ _ hx157_0; first | rwa [add_block] at this | exact this) GW156.out); replace hx157_0 := hX_ HB hx157_0; replace hx157_1 := hX_ HB hx157_1; replace hx157_2 := hX_ HB hx157_2; replace hx157_3 := hX_ HB hx157_3; have HR157_0 := Aside0.mk hi157_0; have HC157_0 := Aside0.mk hl157_0; clear hi157_0 hl157_0; replace hx157_0 := cFr_ hx157_0 ⟨gb156, 0, none⟩ (.int .i64 ((rd_T43 l0_3 x31_2).f0)) hn157_0; replace hx157_1 := cFr_ hx157_1 ⟨gb156, 0, none⟩ (.int .i64 ((rd_T43 l0_3 x31_2).f0)) hn157_0; replace hx157_2 := cFr_ hx157_2 ⟨gb156, 0, none⟩ (.int .i64 ((rd_T43 l0_3 x31_2).f0)) hn157_0; replace hx157_3 := cFr_ hx157_3 ⟨gb156, 0, none⟩ (.int .i64 ((rd_T43 l0_3 x31_2).f0)) hn157_0; replace hx157_0 := cFr_ hx157_0 ⟨gb156, 1, none⟩ (.int .i64 ((rd_T43 l0_3 x31_2).f1)) hn157_1; replace hx157_1 := cFr_ hx157_1 ⟨gb156, 1, none⟩ (.int .i64 ((rd_T43 l0_3 x31_2).f1)) hn157_1; replace hx157_2 := cFr_ hx157_2 ⟨gb156, 1, none⟩ (.int .i64 ((rd_T43 l0_3 x31_2).f1)) hn157_1; replace hx157_3 := cFr_ hx157_3 ⟨gb156, 1, none⟩ (.int .i64 ((rd_T43 l0_3 x31_2).f1)) hn157_1; clear hn157_0; clear hn157_1; replace p157 := eq_true p157; replace q157 := eq_true q157) | ((with_reducible refine gate_callee (f := 52) rfl ?_); refine gL_ (some 45) Try.func52 #[.int .i64 ((rd_T43 l0_3 x31_2).f0), .int .i64 0, .int .i64 3] ?_; (with_reducible refine (impl_in.calls ((rd_T43 l0_3 x31_2).f0) 0 3 true _ A22.out).mono ?_); rintro e w' ⟨rfl, ⟨nd, rfl⟩⟩; refine ⟨_, rfl, ?_⟩) | (go_at_call 52; (with_reducible refine (impl_in.calls ((rd_T43 l0_3 x31_2).f1) 0 ((rd_T39 l0_0 x31_2).f3) true _ A24.out).mono ?_); rintro e w' ⟨rfl, ⟨nd, rfl⟩⟩) | (go_at_call 51; (with_reducible refine (impl_Run_done.calls k2 _ _ l0_0 _ _ l0_1 a0_2 _ _ l0_3 x31_2 true _ ?side1 ?side2 ?side3 ?side4 ?side5 ?side6 A51.out).mono ?_); (case side1 => exact cBF_ HR0_0 HB GE156); (case side2 => exact HC0_0.out); (case side3 => exact cBF_ HR0_1 HB GE156); (case side4 => exact HC0_1.out); (case side5 => exact cBF_ HR0_3 HB GE156); (case side6 => exact HC0_3.out); rintro e w71 ⟨rfl, hb⟩; replace BK151 := bBF_ BK151 NB151_156 hb; replace BK156 := Aside0.mk (blk_below (g := gb156) (o := .cells #[.int .i64 ((rd_T43 l0_3 x31_2).f0), .int .i64 ((rd_T43 l0_3 x31_2).f1)] 43 (0, 0)) (bP_ BK156) hb); replace HB := bSF_ HB GE156 hb; (try clear hb); obtain ⟨hcz72_0, hcz72_1, hfz72_0, hfz72_1⟩ := cf2_ BK156))
             go_roundg k2
             case measure => have := HJ1.out; have := HK2.out; omega
             case rel => exact ⟨(wrap64 (x31_2 + 1)), (by first | rfl | (simp; done) | (simp [*]; done)), H', ⟨by have := HJ1.out; have := HK2.out; omega⟩, ⟨bT_ BK151⟩, ⟨sABelo_6⟩⟩
           ·replace c52 := Bool.eq_false_iff.mpr c52
            subst c52
            replace H := ifF_ H
            obtain rfl := Option.some.inj H
            have p155 : 0 ≤ (x31_2 : Int) := dA_
            have q155 : x31_2 < (l0_3.length : Int) := dA_
            obtain ⟨ad155, e155, hx155_0, hx155_1⟩ := at_T43 HR0_3.out x31_2 p155 q155
            cases e155
            replace hx155_0 := hX_ HB hx155_0
            replace hx155_1 := hX_ HB hx155_1
            replace p155 := eq_true p155; replace q155 := eq_true q155
            go_wp2_with (first | ((with_reducible refine gate_dst (N := 4) rfl ?_); (try (refine gate_guard (by rfl) ?_; dsimp only)); refine box_event ?hg (N := 4) ?hd (cs := #[.int .i64 0, .int .i64 0]) (t := 43) ?hr ?_; (case hd => rfl); (case hg => rfl); (case hr => first | (go_simp; done) | (go_simp; rfl)); intro gb156 hg w73 hbox hb; have BK156 := Aside0.mk (hbox); have GW156 := gE_ HB hg; have GE156 := gE_ HB hg; replace HB := bS_ HB hb; have NB151_156 := nL_ BK151 hg; have NB156_151 := nG_ BK151 hg; replace BK151 := bB_ BK151 hb; clear hb hbox hg; have hnb74 := NB156_151.out; have hnc74 := NB151_156.out; obtain ⟨hcz75_0, hcz75_1, hfz75_0, hfz75_1⟩ := cf2_ BK156; obtain ⟨hcz76_0, hcz76_1, hcz76_2, hcz76_3, hfz76_0, hfz76_1, hfz76_2, hfz76_3⟩ := cf4_ BK151; have p157 : 0 ≤ (x31_2 : Int) := dA_; have q157 : x31_2 < (l0_0.length : Int) := dA_; obtain ⟨ad157, A157_0, c157_0, e157, hx157_0, hx157_1, hx157_2, hx157_3, hl157_0, hi157_0⟩ := at_T39 HR0_0.out x31_2 p157 q157; cases e157; have hn157_0 : ad157.block ≠ gb156 := Nat.ne_of_lt (Nat.lt_of_lt_of_le (by have := World.block_lt_of_cell? _ _ hx157_0; first | rwa [add_block] at this | exact this) GW156.out); have hn157_1 : ad157.block ≠ gb156 := Nat.ne_of_lt (Nat.lt_of_lt_of_le (by have := World.block_lt_of_cell? _ _ hx157_0; first | rwa [add_block] at this | exact this) GW156.out); replace hx157_0 := hX_ HB hx157_0; replace hx157_1 := hX_ HB hx157_1; replace hx157_2 := hX_ HB hx157_2; replace hx157_3 := hX_ HB hx157_3; have HR157_0 := Aside0.mk hi157_0; have HC157_0 := Aside0.mk hl157_0; clear hi157_0 hl157_0; replace hx157_0 := cFr_ hx157_0 ⟨gb156, 0, none⟩ (.int .i64 ((rd_T43 l0_3 x31_2).f0)) hn157_0; replace hx157_1 := cFr_ hx157_1 ⟨gb156, 0, none⟩ (.int .i64 ((rd_T43 l0_3 x31_2).f0)) hn157_0; replace hx157_2 := cFr_ hx157_2 ⟨gb156, 0, none⟩ (.int .i64 ((rd_T43 l0_3 x31_2).f0)) hn157_0; replace hx157_3 := cFr_ hx157_3 ⟨gb156, 0, none⟩ (.int .i64 ((rd_T43 l0_3 x31_2).f0)) hn157_0; replace hx157_0 := cFr_ hx157_0 ⟨gb156, 1, none⟩ (.int .i64 ((rd_T43 l0_3 x31_2).f1)) hn157_1; replace hx157_1 := cFr_ hx157_1 ⟨gb156, 1, none⟩ (.int .i64 ((rd_T43 l0_3 x31_2).f1)) hn157_1; replace hx157_2 := cFr_ hx157_2 ⟨gb156, 1, none⟩ (.int .i64 ((rd_T43 l0_3 x31_2).f1)) hn157_1; replace hx157_3 := cFr_ hx157_3 ⟨gb156, 1, none⟩ (.int .i64 ((rd_T43 l0_3 x31_2).f1)) hn157_1; clear hn157_0; clear hn157_1; replace p157 := eq_true p157; replace q157 := eq_true q157) | ((with_reducible refine gate_callee (f := 52) rfl ?_); refine gL_ (some 45) Try.func52 #[.int .i64 ((rd_T43 l0_3 x31_2).f0), .int .i64 0, .int .i64 3] ?_; (with_reducible refine (impl_in.calls ((rd_T43 l0_3 x31_2).f0) 0 3 true _ A22.out).mono ?_); rintro e w' ⟨rfl, ⟨nd, rfl⟩⟩; refine ⟨_, rfl, ?_⟩) | (go_at_call 52; (with_reducible refine (impl_in.calls ((rd_T43 l0_3 x31_2).f1) 0 ((rd_T39 l0_0 x31_2).f3) true _ A24.out).mono ?_); rintro e w' ⟨rfl, ⟨nd, rfl⟩⟩) | (go_at_call 51; (with_reducible refine (impl_Run_done.calls k2 _ _ l0_0 _ _ l0_1 a0_2 _ _ l0_3 x31_2 false _ ?side1 ?side2 ?side3 ?side4 ?side5 ?side6 A51.out).mono ?_); (case side1 => exact cBF_ HR0_0 HB GE156); (case side2 => exact HC0_0.out); (case side3 => exact cBF_ HR0_1 HB GE156); (case side4 => exact HC0_1.out); (case side5 => exact cBF_ HR0_3 HB GE156); (case side6 => exact HC0_3.out); rintro e w77 ⟨rfl, hb⟩; replace BK151 := bBF_ BK151 NB151_156 hb; replace BK156 := Aside0.mk (blk_below (g := gb156) (o := .cells #[.int .i64 ((rd_T43 l0_3 x31_2).f0), .int .i64 ((rd_T43 l0_3 x31_2).f1)] 43 (0, 0)) (bP_ BK156) hb); replace HB := bSF_ HB GE156 hb; (try clear hb)))
            go_ret
            exact ⟨by first | rfl | (simp [errW_none, errW_some] <;> rfl) | (simp [*, errW_none, errW_some] <;> rfl), sABelo_6⟩
        ·replace c25 := Bool.eq_false_iff.mpr c25
         subst c25
         replace H := ifF_ H
         obtain rfl := Option.some.inj H
         have p155 : 0 ≤ (x31_2 : Int) := dA_
         have q155 : x31_2 < (l0_3.length : Int) := dA_
         obtain ⟨ad155, e155, hx155_0, hx155_1⟩ := at_T43 HR0_3.out x31_2 p155 q155
         cases e155
         replace hx155_0 := hX_ HB hx155_0
         replace hx155_1 := hX_ HB hx155_1
         replace p155 := eq_true p155; replace q155 := eq_true q155
         go_wp2_with (first | ((with_reducible refine gate_dst (N := 4) rfl ?_); (try (refine gate_guard (by rfl) ?_; dsimp only)); refine box_event ?hg (N := 4) ?hd (cs := #[.int .i64 0, .int .i64 0]) (t := 43) ?hr ?_; (case hd => rfl); (case hg => rfl); (case hr => first | (go_simp; done) | (go_simp; rfl)); intro gb156 hg w78 hbox hb; have BK156 := Aside0.mk (hbox); have GW156 := gE_ HB hg; have GE156 := gE_ HB hg; replace HB := bS_ HB hb; have NB151_156 := nL_ BK151 hg; have NB156_151 := nG_ BK151 hg; replace BK151 := bB_ BK151 hb; clear hb hbox hg; have hnb79 := NB156_151.out; have hnc79 := NB151_156.out; obtain ⟨hcz80_0, hcz80_1, hfz80_0, hfz80_1⟩ := cf2_ BK156; obtain ⟨hcz81_0, hcz81_1, hcz81_2, hcz81_3, hfz81_0, hfz81_1, hfz81_2, hfz81_3⟩ := cf4_ BK151; have p157 : 0 ≤ (x31_2 : Int) := dA_; have q157 : x31_2 < (l0_0.length : Int) := dA_; obtain ⟨ad157, A157_0, c157_0, e157, hx157_0, hx157_1, hx157_2, hx157_3, hl157_0, hi157_0⟩ := at_T39 HR0_0.out x31_2 p157 q157; cases e157; have hn157_0 : ad157.block ≠ gb156 := Nat.ne_of_lt (Nat.lt_of_lt_of_le (by have := World.block_lt_of_cell? _ _ hx157_0; first | rwa [add_block] at this | exact this) GW156.out); have hn157_1 : ad157.block ≠ gb156 := Nat.ne_of_lt (Nat.lt_of_lt_of_le (by have := World.block_lt_of_cell? _ _ hx157_0; first | rwa [add_block] at this | exact this) GW156.out); replace hx157_0 := hX_ HB hx157_0; replace hx157_1 := hX_ HB hx157_1; replace hx157_2 := hX_ HB hx157_2; replace hx157_3 := hX_ HB hx157_3; have HR157_0 := Aside0.mk hi157_0; have HC157_0 := Aside0.mk hl157_0; clear hi157_0 hl157_0; replace hx157_0 := cFr_ hx157_0 ⟨gb156, 0, none⟩ (.int .i64 ((rd_T43 l0_3 x31_2).f0)) hn157_0; replace hx157_1 := cFr_ hx157_1 ⟨gb156, 0, none⟩ (.int .i64 ((rd_T43 l0_3 x31_2).f0)) hn157_0; replace hx157_2 := cFr_ hx157_2 ⟨gb156, 0, none⟩ (.int .i64 ((rd_T43 l0_3 x31_2).f0)) hn157_0; replace hx157_3 := cFr_ hx157_3 ⟨gb156, 0, none⟩ (.int .i64 ((rd_T43 l0_3 x31_2).f0)) hn157_0; replace hx157_0 := cFr_ hx157_0 ⟨gb156, 1, none⟩ (.int .i64 ((rd_T43 l0_3 x31_2).f1)) hn157_1; replace hx157_1 := cFr_ hx157_1 ⟨gb156, 1, none⟩ (.int .i64 ((rd_T43 l0_3 x31_2).f1)) hn157_1; replace hx157_2 := cFr_ hx157_2 ⟨gb156, 1, none⟩ (.int .i64 ((rd_T43 l0_3 x31_2).f1)) hn157_1; replace hx157_3 := cFr_ hx157_3 ⟨gb156, 1, none⟩ (.int .i64 ((rd_T43 l0_3 x31_2).f1)) hn157_1; clear hn157_0; clear hn157_1; replace p157 := eq_true p157; replace q157 := eq_true q157) | ((with_reducible refine gate_callee (f := 52) rfl ?_); refine gL_ (some 45) Try.func52 #[.int .i64 ((rd_T43 l0_3 x31_2).f0), .int .i64 0, .int .i64 3] ?_; (with_reducible refine (impl_in.calls ((rd_T43 l0_3 x31_2).f0) 0 3 true _ A22.out).mono ?_); rintro e w' ⟨rfl, ⟨nd, rfl⟩⟩; refine ⟨_, rfl, ?_⟩) | (go_at_call 52; (with_reducible refine (impl_in.calls ((rd_T43 l0_3 x31_2).f1) 0 ((rd_T39 l0_0 x31_2).f3) false _ A24.out).mono ?_); rintro e w' ⟨rfl, ⟨nd, rfl⟩⟩))
         go_ret
         exact ⟨by first | rfl | (simp [errW_none, errW_some] <;> rfl) | (simp [*, errW_none, errW_some] <;> rfl), sABelo_6⟩
       ·replace c23 := Bool.eq_false_iff.mpr c23
        subst c23
        replace H := ifF_ H
        obtain rfl := Option.some.inj H
        have p155 : 0 ≤ (x31_2 : Int) := dA_
        have q155 : x31_2 < (l0_3.length : Int) := dA_
        obtain ⟨ad155, e155, hx155_0, hx155_1⟩ := at_T43 HR0_3.out x31_2 p155 q155
        cases e155
        replace hx155_0 := hX_ HB hx155_0
        replace hx155_1 := hX_ HB hx155_1
        replace p155 := eq_true p155; replace q155 := eq_true q155
        go_wp2_with (first | ((with_reducible refine gate_dst (N := 4) rfl ?_); (try (refine gate_guard (by rfl) ?_; dsimp only)); refine box_event ?hg (N := 4) ?hd (cs := #[.int .i64 0, .int .i64 0]) (t := 43) ?hr ?_; (case hd => rfl); (case hg => rfl); (case hr => first | (go_simp; done) | (go_simp; rfl)); intro gb156 hg w82 hbox hb; have BK156 := Aside0.mk (hbox); have GW156 := gE_ HB hg; have GE156 := gE_ HB hg; replace HB := bS_ HB hb; have NB151_156 := nL_ BK151 hg; have NB156_151 := nG_ BK151 hg; replace BK151 := bB_ BK151 hb; clear hb hbox hg; have hnb83 := NB156_151.out; have hnc83 := NB151_156.out; obtain ⟨hcz84_0, hcz84_1, hfz84_0, hfz84_1⟩ := cf2_ BK156; obtain ⟨hcz85_0, hcz85_1, hcz85_2, hcz85_3, hfz85_0, hfz85_1, hfz85_2, hfz85_3⟩ := cf4_ BK151; have p157 : 0 ≤ (x31_2 : Int) := dA_; have q157 : x31_2 < (l0_0.length : Int) := dA_; obtain ⟨ad157, A157_0, c157_0, e157, hx157_0, hx157_1, hx157_2, hx157_3, hl157_0, hi157_0⟩ := at_T39 HR0_0.out x31_2 p157 q157; cases e157; have hn157_0 : ad157.block ≠ gb156 := Nat.ne_of_lt (Nat.lt_of_lt_of_le (by have := World.block_lt_of_cell? _ _ hx157_0; first | rwa [add_block] at this | exact this) GW156.out); have hn157_1 : ad157.block ≠ gb156 := Nat.ne_of_lt (Nat.lt_of_lt_of_le (by have := World.block_lt_of_cell? _ _ hx157_0; first | rwa [add_block] at this | exact this) GW156.out); replace hx157_0 := hX_ HB hx157_0; replace hx157_1 := hX_ HB hx157_1; replace hx157_2 := hX_ HB hx157_2; replace hx157_3 := hX_ HB hx157_3; have HR157_0 := Aside0.mk hi157_0; have HC157_0 := Aside0.mk hl157_0; clear hi157_0 hl157_0; replace hx157_0 := cFr_ hx157_0 ⟨gb156, 0, none⟩ (.int .i64 ((rd_T43 l0_3 x31_2).f0)) hn157_0; replace hx157_1 := cFr_ hx157_1 ⟨gb156, 0, none⟩ (.int .i64 ((rd_T43 l0_3 x31_2).f0)) hn157_0; replace hx157_2 := cFr_ hx157_2 ⟨gb156, 0, none⟩ (.int .i64 ((rd_T43 l0_3 x31_2).f0)) hn157_0; replace hx157_3 := cFr_ hx157_3 ⟨gb156, 0, none⟩ (.int .i64 ((rd_T43 l0_3 x31_2).f0)) hn157_0; replace hx157_0 := cFr_ hx157_0 ⟨gb156, 1, none⟩ (.int .i64 ((rd_T43 l0_3 x31_2).f1)) hn157_1; replace hx157_1 := cFr_ hx157_1 ⟨gb156, 1, none⟩ (.int .i64 ((rd_T43 l0_3 x31_2).f1)) hn157_1; replace hx157_2 := cFr_ hx157_2 ⟨gb156, 1, none⟩ (.int .i64 ((rd_T43 l0_3 x31_2).f1)) hn157_1; replace hx157_3 := cFr_ hx157_3 ⟨gb156, 1, none⟩ (.int .i64 ((rd_T43 l0_3 x31_2).f1)) hn157_1; clear hn157_0; clear hn157_1; replace p157 := eq_true p157; replace q157 := eq_true q157) | ((with_reducible refine gate_callee (f := 52) rfl ?_); refine gL_ (some 45) Try.func52 #[.int .i64 ((rd_T43 l0_3 x31_2).f0), .int .i64 0, .int .i64 3] ?_; (with_reducible refine (impl_in.calls ((rd_T43 l0_3 x31_2).f0) 0 3 false _ A22.out).mono ?_); rintro e w' ⟨rfl, ⟨nd, rfl⟩⟩; refine ⟨_, rfl, ?_⟩))
        go_ret
        exact ⟨by first | rfl | (simp [errW_none, errW_some] <;> rfl) | (simp [*, errW_none, errW_some] <;> rfl), sABelo_6⟩
      ·rw [if_neg c18] at H
       have c18b0 := decide_eq_false c18
       clear c18; replace H := Option.bind_eq_some_iff.mp H
       obtain ⟨t154, A860, H⟩ := H
       replace H : (if t154 = true then (some true) else (some false)) = some r := H
       have A86 := Aside0.mk A860; clear A860
       obtain ⟨hl_, hg_, ht_⟩ := runningf_some A86.out
       obtain rfl : t154 = r := by revert H; cases t154 <;> cases r <;> simp
       clear H A86
       have HL := Aside0.mk hl_; have HG := Aside0.mk hg_; have HT := Aside0.mk ht_; clear hl_ hg_ ht_
       obtain ⟨hcza_0, hcza_1, hcza_2, hcza_3⟩ := cz4_ BK151
       go_wp2_with (first | ((with_reducible refine gate_callee (f := 50) rfl ?_); refine goesL_ (some 94) rfl rfl Try.func50 (by kernel_rfl) rfl #[.agg #[.slice A0_0 l0_0.length c0_0, .slice A0_1 l0_1.length c0_1, .int .i64 a0_2, .slice A0_3 l0_3.length c0_3]] rfl (by (try simp only [List.map_toArray, List.map_cons, List.map_nil]); first | done | rfl) ?_; (with_reducible refine (impl_running.callsM (H := Unit) A0_0 c0_0 l0_0 A0_1 c0_1 l0_1.length a0_2 A0_3 c0_3 l0_3 _ ?side1 ?side2 HL.out.1 HL.out.2.1 (fun q hq hf => (HG.out q hq hf).2)).mono ?_); (case side1 => exact Kd.C_below HR0_0.out HB.out); (case side2 => exact Kd.C_below HR0_3.out HB.out); rintro e w5 ⟨B, D, rfl, hm_, hd_, hb, hs_⟩; refine ⟨_, rfl, ?_⟩; have HM := Aside0.mk hm_; have HD := Aside0.mk hd_; have n0_ := Aside0.mk (blk_below BK151.out hb); have n1_ := Aside0.mk (below_step HB.out hb); have HS := Aside0.mk (Nat.le_trans HB.out.size hs_ : w.heap.size ≤ B); have HX := Aside0.mk (Nat.lt_of_lt_of_le (blk_lt BK151.out) hs_ : gb151 < B); clear BK151 HB hm_ hd_ hb hs_ hcza_0 hcza_1 hcza_2 hcza_3; have BK151 := n0_; have HB := n1_; clear n0_ n1_) | (at_range; refine wpList_range_own _ rfl _ 78 rfl 2 2 lawI Try.underlying78 _ B l0_3.length D rfl HM.out ?_; intro w6 hrg_ hgr_ hsz_; have HRG := Aside0.mk hrg_; have n0_ := Aside0.mk (HB.out.grown hgr_ HB.out.size (fun j_ hj_ => by cases hj_)); have n1_ := Aside0.mk ((hgr_.block gb151 (blk_lt BK151.out) (by simp)).trans BK151.out); have HSZ := Aside0.mk (Nat.lt_of_lt_of_le (blk_lt BK151.out) (Nat.le_refl _) : gb151 < w5.heap.size); have HSY := Aside0.mk HB.out.size; clear BK151 HB hrg_ hgr_ hsz_; have BK151 := n1_; have HB := n0_; clear n0_ n1_))
       go_frame
       go_loopw [6] (fun _ wq => ∃ (left : Lit → Bool) (cnt : Nat), Aside0 (wq.ranges Try.prog 2 (plainElem (H := Unit) Try.prog 2) B w5.heap.size l0_3.length D left cnt) ∧ Aside0 (Seen D l0_0 l0_1 l0_3 left) ∧ Aside0 (wq.heap[gb151]? = some (.cells #[.slice A0_0 l0_0.length c0_0, .slice A0_1 l0_1.length c0_1, .int .i64 a0_2, .slice A0_3 l0_3.length c0_3] 31 (0, 0))) ∧ Aside0 (Below w.heap.size w wq)) (fun _ wq => wq.rangeLeft B w5.heap.size)
       case atStart => exact ⟨_, _, HRG, ⟨seen_start _ _ _ _⟩, BK151, HB⟩
       case round =>
        clear HRG HM BK151 HB
        obtain ⟨left, cnt, HRG, HSN, BK151, HB⟩ := hrel
        go_wp2_with (first | (at_next; refine wpList_next_ranges_ii _ rfl _ rfl 2 2 .i64 .i64 lawI Try.underlying2 Try.underlying2 B w5.heap.size l0_3.length _ _ _ rfl HRG.out ?_ ?_))
        ·intro hc0 hl0
         have ht := HT.out.mpr (seen_end HD.out HSN.out hl0)
         subst ht
         clear hc0 hl0
         go_wp2
         go_ret
         exact ⟨rfl, HB.out⟩
        ·intro x c w1 cnt1 hwx hwc hlx hat hrg1 hlt hg1 hs1 hen
         obtain ⟨hce, q_, hq_, hf_, hx_⟩ := entry_is HD.out hat
         have hb_ := (HG.out q_ hq_ hf_).1
         rw [hx_] at hb_
         obtain ⟨hb1, hb2⟩ := hb_
         have hl2 := HL.out.2.2
         obtain ⟨jx, hjx, hjn⟩ : ∃ j_ : Int, wrap64 (x - 1) = j_ ∧ x - 1 = j_ := ⟨x - 1, by unfold wrap64; omega, rfl⟩
         have p_ : 0 ≤ jx := by omega
         have q2_ : jx < (l0_1.length : Int) := by omega
         have HJN := Aside0.mk hjn
         have HBn := Aside0.mk (HB.out.grown hg1 HB.out.size (fun j_ hj_ => by cases hj_; exact HSY.out))
         have BKn := Aside0.mk ((hg1.block gb151 (blk_lt BK151.out) (fun e_ => absurd (Option.some.inj e_) (Nat.ne_of_lt HSZ.out))).trans BK151.out)
         clear BK151 HB
         have BK151 := BKn; have HB := HBn; clear BKn HBn
         obtain ⟨hczb_0, hczb_1, hczb_2, hczb_3⟩ := cz4_ BK151
         obtain ⟨ad1, ea1, hx1⟩ := Kd.at_int HR0_1.out jx p_ q2_
         cases ea1
         replace hx1 := hX_ HB hx1
         have HAT := Aside0.mk hat; have HCE := Aside0.mk hce; have HQ := Aside0.mk (And.intro hq_ (And.intro hf_ hx_)); have HLX := Aside0.mk hlx
         have HRN := Aside0.mk hrg1; have HLT := Aside0.mk hlt; have HWX := Aside0.mk hwx; clear hjn hat hce hq_ hf_ hx_ hlx hwc hs1 hg1 hb1 hb2 hl2 hrg1 hlt hwx; replace p_ := eq_true p_; replace q2_ := eq_true q2_
         by_cases hgt : rd l0_1 jx < c
         ·have hgb := decide_eq_true hgt
          have ht : t154 = false := by
           cases hr_ : t154 with
           | false => rfl
           | true =>
            have := HT.out.mp hr_ q_ HQ.out.1 HQ.out.2.1
            rw [HQ.out.2.2, ← HCE.out, HJN.out] at this
            omega
          subst ht
          clear hgt
          go_wp2
          go_ret
          exact ⟨rfl, HB.out⟩
         ·have hgb := decide_eq_false hgt
          have HLE := Aside0.mk (by rw [← HCE.out, HJN.out]; omega : cntG l0_0 l0_3 x l0_3.length ≤ rd l0_1 (x - 1))
          clear hgt
          go_wp2
          go_roundw
          case rel => exact ⟨_, cnt1, HRN, ⟨seen_step HSN.out HLE.out⟩, BK151, HB⟩
          case measure => rw [HRN.out.left_eq, HRG.out.left_eq]; exact HLT.out

