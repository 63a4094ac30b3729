-- Written by a program of this session out of the printer's texts and contracts of its own.
import Derived.Test.YtjoghfehmhapbaaQFnExactNewRunx0
import Derived.Test.YtjoghfehmhapbaaQFnExactNewRunx3
namespace Go.Proofs.Ytjoghfehmhapbaa.QFnExactNewRun
open Go.RowKit Go.Proofs.YtjoghfehmhapbaaW.PrintWords Go.Proofs.YtjoghfehmhapbaaW.PrintLast Go.Proofs.YtjoghfehmhapbaaW.PrintMore
attribute [local go_sem] max2_int min2_int max_two min_two max_three min_three max_four min_four   -- for this text's walks alone
set_option linter.unusedVariables false
set_option linter.unusedSimpArgs false

/-! ### impl_SuiteOk: function 46 -/
mutual
def impl_SuiteOk.j0 : Nat → Bool → List (S39) → List Int → Option (Bool)
  | 0, _, _, _ => none
  | k + 1, x27, x149000, x149001 => if x27 = true then (some false) else (impl_SuiteOk.l0 k x149000 (x149000.length : Int) 0 x149000 x149001)
def impl_SuiteOk.l0 : Nat → List (S39) → Int → Int → List (S39) → List Int → Option (Bool)
  | 0, _, _, _, _, _ => none
  | k + 1, x29, x30, x31, x149000, x149001 => if x31 < x30 then (if 0 ≤ x31 then (if x31 < (x29.length : Int) then (impl_SuiteOk.l1 k x31 x29 x30 x31 ((rd_T39 x29 x31).f0) (((rd_T39 x29 x31).f0).length : Int) 0 x149000 x149001 ((rd_T39 x29 x31).f0) ((rd_T39 x29 x31).f1) ((rd_T39 x29 x31).f2) ((rd_T39 x29 x31).f3)) else (none)) else (none)) else (some true)
def impl_SuiteOk.l1 : Nat → Int → List (S39) → Int → Int → List Int → Int → Int → List (S39) → List Int → List Int → Int → Int → Int → Option (Bool)
  | 0, _, _, _, _, _, _, _, _, _, _, _, _, _ => none
  | k + 1, x3, x29, x30, x31, x37, x38, x39, x149000, x149001, x154000, x154001, x154002, x154003 => if x39 < x38 then (if 0 ≤ x39 then (if x39 < (x37.length : Int) then ((impl_in.f (rd x37 x39) 1 x3).bind fun t155 => (if t155 = true then (if x39 > 0 then (if 0 ≤ (wrap64 (x39 - 1)) then (if (wrap64 (x39 - 1)) < (x154000.length : Int) then (if (rd x154000 (wrap64 (x39 - 1))) ≥ (rd x37 x39) then (some false) else (impl_SuiteOk.l1 k x3 x29 x30 x31 x37 x38 (wrap64 (x39 + 1)) x149000 x149001 x154000 x154001 x154002 x154003)) else (none)) else (none)) else (impl_SuiteOk.l1 k x3 x29 x30 x31 x37 x38 (wrap64 (x39 + 1)) x149000 x149001 x154000 x154001 x154002 x154003)) else (some false))) else (none)) else (none)) else ((impl_in.f x154001 1 (x149001.length : Int)).bind fun t157 => (if t157 = true then ((impl_in.f x154002 0 1000000000000).bind fun t158 => (if t158 = true then ((impl_in.f x154003 1 5).bind fun t159 => (if t159 = true then (impl_SuiteOk.l0 k x29 x30 (wrap64 (x31 + 1)) x149000 x149001) else (some false))) else (some false))) else (some false)))
end
def impl_SuiteOk.f (k : Nat) (l0_0 : List (S39)) (l0_1 : List Int) : Option (Bool) := (impl_in.f (l0_0.length : Int) 1 60).bind fun t149 => (if t149 = true then ((impl_in.f (l0_1.length : Int) 1 6).bind fun t150 => (if t150 = true then ((impl_each.f k l0_1 (l0_1.length : Int) 1 60).bind fun t151 => (impl_SuiteOk.j0 k (!t151) l0_0 l0_1)) else (impl_SuiteOk.j0 k true l0_0 l0_1))) else (impl_SuiteOk.j0 k true l0_0 l0_1))
theorem impl_SuiteOk.mono_l : ∀ k, (∀ y0 y1 y2, LeO (impl_SuiteOk.j0 k y0 y1 y2) (impl_SuiteOk.j0 (k + 1) y0 y1 y2)) ∧ (∀ y0 y1 y2 y3 y4, LeO (impl_SuiteOk.l0 k y0 y1 y2 y3 y4) (impl_SuiteOk.l0 (k + 1) y0 y1 y2 y3 y4)) ∧ (∀ y0 y1 y2 y3 y4 y5 y6 y7 y8 y9 y10 y11 y12, LeO (impl_SuiteOk.l1 k y0 y1 y2 y3 y4 y5 y6 y7 y8 y9 y10 y11 y12) (impl_SuiteOk.l1 (k + 1) y0 y1 y2 y3 y4 y5 y6 y7 y8 y9 y10 y11 y12))
  | 0 => ⟨fun _ _ _ r h => by simp [impl_SuiteOk.j0] at h, fun _ _ _ _ _ r h => by simp [impl_SuiteOk.l0] at h, fun _ _ _ _ _ _ _ _ _ _ _ _ _ r h => by simp [impl_SuiteOk.l1] at h⟩
  | k + 1 => by
    obtain ⟨ih0, ih1, ih2⟩ := impl_SuiteOk.mono_l k
    refine ⟨?_, ?_, ?_⟩
    · intro y0 y1 y2
      unfold impl_SuiteOk.j0
      repeat' first
      | (with_reducible exact ih0 _ _ _)
      | (with_reducible exact ih1 _ _ _ _ _)
      | (with_reducible exact ih2 _ _ _ _ _ _ _ _ _ _ _ _ _)
      | (with_reducible exact impl_each.mono _ _ _ _ _)
      | (with_reducible exact LeO.refl _)
      | (with_reducible exact LeO.none _)
      | (with_reducible refine LeO.ite ?_ ?_)
      | (with_reducible refine LeO.bind ?_ (fun _ => ?_))
      | exact ih0 _ _ _
      | exact ih1 _ _ _ _ _
      | exact ih2 _ _ _ _ _ _ _ _ _ _ _ _ _
      | exact impl_each.mono _ _ _ _ _
      | exact LeO.none _
      | refine LeO.ite ?_ ?_
      | refine LeO.bind ?_ (fun _ => ?_)
    · intro y0 y1 y2 y3 y4
      unfold impl_SuiteOk.l0
      repeat' first
      | (with_reducible exact ih0 _ _ _)
      | (with_reducible exact ih1 _ _ _ _ _)
      | (with_reducible exact ih2 _ _ _ _ _ _ _ _ _ _ _ _ _)
      | (with_reducible exact impl_each.mono _ _ _ _ _)
      | (with_reducible exact LeO.refl _)
      | (with_reducible exact LeO.none _)
      | (with_reducible refine LeO.ite ?_ ?_)
      | (with_reducible refine LeO.bind ?_ (fun _ => ?_))
      | exact ih0 _ _ _
      | exact ih1 _ _ _ _ _
      | exact ih2 _ _ _ _ _ _ _ _ _ _ _ _ _
      | exact impl_each.mono _ _ _ _ _
      | exact LeO.none _
      | refine LeO.ite ?_ ?_
      | refine LeO.bind ?_ (fun _ => ?_)
    · intro y0 y1 y2 y3 y4 y5 y6 y7 y8 y9 y10 y11 y12
      unfold impl_SuiteOk.l1
      repeat' first
      | (with_reducible exact ih0 _ _ _)
      | (with_reducible exact ih1 _ _ _ _ _)
      | (with_reducible exact ih2 _ _ _ _ _ _ _ _ _ _ _ _ _)
      | (with_reducible exact impl_each.mono _ _ _ _ _)
      | (with_reducible exact LeO.refl _)
      | (with_reducible exact LeO.none _)
      | (with_reducible refine LeO.ite ?_ ?_)
      | (with_reducible refine LeO.bind ?_ (fun _ => ?_))
      | exact ih0 _ _ _
      | exact ih1 _ _ _ _ _
      | exact ih2 _ _ _ _ _ _ _ _ _ _ _ _ _
      | exact impl_each.mono _ _ _ _ _
      | exact LeO.none _
      | refine LeO.ite ?_ ?_
      | refine LeO.bind ?_ (fun _ => ?_)
theorem impl_SuiteOk.mono : ∀ a0 a1 k, LeO (impl_SuiteOk.f k a0 a1) (impl_SuiteOk.f (k + 1) a0 a1) := by
  intro a0 a1 k
  obtain ⟨ih0, ih1, ih2⟩ := impl_SuiteOk.mono_l k
  unfold impl_SuiteOk.f
  repeat' first
      | (with_reducible exact ih0 _ _ _)
      | (with_reducible exact ih1 _ _ _ _ _)
      | (with_reducible exact ih2 _ _ _ _ _ _ _ _ _ _ _ _ _)
      | (with_reducible exact impl_each.mono _ _ _ _ _)
      | (with_reducible exact LeO.refl _)
      | (with_reducible exact LeO.none _)
      | (with_reducible refine LeO.ite ?_ ?_)
      | (with_reducible refine LeO.bind ?_ (fun _ => ?_))
      | exact ih0 _ _ _
      | exact ih1 _ _ _ _ _
      | exact ih2 _ _ _ _ _ _ _ _ _ _ _ _ _
      | exact impl_each.mono _ _ _ _ _
      | exact LeO.none _
      | refine LeO.ite ?_ ?_
      | refine LeO.bind ?_ (fun _ => ?_)
set_option maxHeartbeats 8000000 in
set_option maxRecDepth 100000 in
theorem impl_SuiteOk.calls (k : Nat) (A0_0 : Option Addr) (c0_0 : Nat) (l0_0 : List (S39)) (A0_1 : Option Addr) (c0_1 : Nat) (l0_1 : List Int) (r : Bool) (w : World) (hr0_0 : Kd.C k39 w A0_0 l0_0.length l0_0) (hc0_0 : l0_0.length ≤ c0_0) (hr0_1 : Kd.C (Kd.int .i64) w A0_1 l0_1.length l0_1) (hc0_1 : l0_1.length ≤ c0_1) (h : impl_SuiteOk.f k l0_0 l0_1 = some r) :
    Calls Try.prog 46 #[.agg #[.slice A0_0 l0_0.length c0_0, .slice A0_1 l0_1.length c0_1]] w fun e w' => e = .returned (.bool r) ∧ Below w.heap.size w w' := by
  have hu27 := Try.underlying27
  have hu39 := Try.underlying39
  have HR0_0 := Aside0.mk hr0_0
  have HC0_0 := Aside0.mk hc0_0
  clear hr0_0 hc0_0
  have HR0_1 := Aside0.mk hr0_1
  have HC0_1 := Aside0.mk hc0_1
  clear hr0_1 hc0_1
  have HB := Aside0.mk (Below.refl w.heap.size w)
  have H : ((impl_in.f (l0_0.length : Int) 1 60).bind fun t149 => (if t149 = true then ((impl_in.f (l0_1.length : Int) 1 6).bind fun t150 => (if t150 = true then ((impl_each.f k l0_1 (l0_1.length : Int) 1 60).bind fun t151 => (impl_SuiteOk.j0 k (!t151) l0_0 l0_1)) else (impl_SuiteOk.j0 k true l0_0 l0_1))) else (impl_SuiteOk.j0 k true l0_0 l0_1))) = some r := h
  clear h
  have HC2 := Aside0.mk H
  clear H
  go_enter Try.func46, Try.ntmps46
  go_upto_region 1 with (first | ((with_reducible refine gate_dst (N := 1) rfl ?_); (try (refine gate_guard (by rfl) ?_; dsimp only)); refine box_event ?hg (N := 1) ?hd (cs := #[.slice A0_0 l0_0.length c0_0, .slice A0_1 l0_1.length c0_1]) (t := 27) ?hr ?_; (case hd => rfl); (case hg => rfl); (case hr => first | (go_simp; done) | (go_simp; rfl)); intro gb148 hg w3 hbox hb; have n0_ := Aside0.mk (below_step (by repeat (first | (with_reducible first | exact HB.out | apply below_alloc | apply pw_below_drewN | apply below_drew1) | exact HB.out)) hb); have n1_ := Aside0.mk (hbox); have n2_ := Aside0.mk ((by rw [hg]; exact (below_size (by repeat (first | (with_reducible first | exact HB.out | apply below_alloc | apply pw_below_drewN | apply below_drew1) | exact HB.out))) : w.heap.size ≤ gb148)); have n3_ := Aside0.mk ((by rw [hg]; exact (below_size (by repeat (first | (with_reducible first | exact HB.out | apply below_alloc | apply pw_below_drewN | apply below_drew1) | exact HB.out))) : w.heap.size ≤ gb148)); clear HB; have HB := n0_; have BK148 := n1_; have GW148 := n2_; have GE148 := n3_; clear n0_ n1_ n2_ n3_; clear hb hbox hg))
  (try simp only [Act.put, List.setIfInBounds_toArray, List.set_cons_zero, List.set_cons_succ])
  go_cut [27] (fun v27 wc => ∃ (kq : Nat) (x27_1 : Bool), v27 = .bool x27_1 ∧ Aside0 (impl_SuiteOk.j0 kq x27_1 l0_0 l0_1 = some r) ∧ Aside0 (kq ≤ k) ∧ Aside0 (wc.heap[gb148]? = some (.cells #[(.slice A0_0 l0_0.length c0_0), (.slice A0_1 l0_1.length c0_1)] 27 (0, 0))) ∧ Aside0 (Below w.heap.size w wc))
  case first =>
    have H := HC2.out
    clear HC2
    replace H := Option.bind_eq_some_iff.mp H
    obtain ⟨t149, A40, H⟩ := H
    replace H : (if t149 = true then ((impl_in.f (l0_1.length : Int) 1 6).bind fun t150 => (if t150 = true then ((impl_each.f k l0_1 (l0_1.length : Int) 1 60).bind fun t151 => (impl_SuiteOk.j0 k (!t151) l0_0 l0_1)) else (impl_SuiteOk.j0 k true l0_0 l0_1))) else (impl_SuiteOk.j0 k true l0_0 l0_1)) = some r := H
    have A4 := Aside0.mk A40
    clear A40
    by_cases c5 : t149 = true
    · subst c5
      have H1 : ((impl_in.f (l0_1.length : Int) 1 6).bind fun t150 => (if t150 = true then ((impl_each.f k l0_1 (l0_1.length : Int) 1 60).bind fun t151 => (impl_SuiteOk.j0 k (!t151) l0_0 l0_1)) else (impl_SuiteOk.j0 k true l0_0 l0_1))) = some r := by rw [if_pos rfl] at H; exact H
      clear H
      have H := H1
      clear H1
      replace H := Option.bind_eq_some_iff.mp H
      obtain ⟨t150, A60, H⟩ := H
      replace H : (if t150 = true then ((impl_each.f k l0_1 (l0_1.length : Int) 1 60).bind fun t151 => (impl_SuiteOk.j0 k (!t151) l0_0 l0_1)) else (impl_SuiteOk.j0 k true l0_0 l0_1)) = some r := H
      have A6 := Aside0.mk A60
      clear A60
      by_cases c7 : t150 = true
      · subst c7
        have H1 : ((impl_each.f k l0_1 (l0_1.length : Int) 1 60).bind fun t151 => (impl_SuiteOk.j0 k (!t151) l0_0 l0_1)) = some r := by rw [if_pos rfl] at H; exact H
        clear H
        have H := H1
        clear H1
        replace H := Option.bind_eq_some_iff.mp H
        obtain ⟨t151, A80, H⟩ := H
        replace H : (impl_SuiteOk.j0 k (!t151) l0_0 l0_1) = some r := H
        have A8 := Aside0.mk A80
        clear A80
        have H' := Aside0.mk H
        clear H
        have hcz9_0 : w3.cell? ⟨gb148, 0, none⟩ = some (.slice A0_0 l0_0.length c0_0) := (blk_cell BK148.out 0).trans rfl
        have hcz9_1 : w3.cell? ⟨gb148, 1, none⟩ = some (.slice A0_1 l0_1.length c0_1) := (blk_cell BK148.out 1).trans rfl
        have hfz9_0 := blk_frozen BK148.out 0
        have hfz9_1 := blk_frozen BK148.out 1
        go_wp2_with (first | ((with_reducible refine gate_callee (f := 52) rfl ?_); refine goesL_ (some 10) rfl rfl Try.func52 (by kernel_rfl) rfl #[.int .i64 (l0_0.length : Int), .int .i64 1, .int .i64 60] rfl (by (try simp only [List.map_toArray, List.map_cons, List.map_nil]); first | done | rfl | (simp only [List.length_drop, List.length_take]; rfl)) ?_; (with_reducible refine (impl_in.calls (l0_0.length : Int) 1 60 true _ A4.out).mono ?_); rintro e w' ⟨rfl, ⟨nd, rfl⟩⟩; refine ⟨_, rfl, ?_⟩) | (go_at_call 52; (with_reducible refine (impl_in.calls (l0_1.length : Int) 1 6 true _ A6.out).mono ?_); rintro e w' ⟨rfl, ⟨nd, rfl⟩⟩) | (go_at_call 78; (with_reducible refine (impl_each.calls k _ _ l0_1 (l0_1.length : Int) 1 60 t151 _ ?side1 ?side2 A8.out).mono ?_); (case side1 => repeat (first | exact (Kd.C_below HR0_1.out (by repeat (first | (with_reducible first | exact HB.out | apply below_alloc | apply pw_below_drewN | apply below_drew1 | refine below_set ?_ GE148.out) | exact HB.out))) | (with_reducible refine Kd.C_alloc ?_ _) | (with_reducible refine Kd.C_drewN ?_ _) | (with_reducible refine Kd.C_drew ?_))); (case side2 => exact HC0_1.out); rintro e w' ⟨rfl, ⟨nd, rfl⟩⟩))
        go_meet
        case rel => exact ⟨_, (!t151), (by first | rfl | (simp; done) | (simp [*]; done)), H', ⟨by first | omega | exact Nat.le_refl _⟩, ⟨by (with_reducible repeat (first | refine blk_drewN ?_ _ | refine blk_drew ?_ | refine blk_alloc ?_ _)); exact BK148.out⟩, ⟨by repeat (first | (with_reducible first | exact HB.out | apply below_alloc | apply pw_below_drewN | apply below_drew1 | refine below_set ?_ GE148.out) | exact HB.out)⟩⟩
      · replace c7 := Bool.eq_false_iff.mpr c7
        subst c7
        have H1 : (impl_SuiteOk.j0 k true l0_0 l0_1) = some r := by rw [if_neg (show ¬ (false = true) by decide)] at H; exact H
        clear H
        have H := H1
        clear H1
        have H' := Aside0.mk H
        clear H
        have hcz10_0 : w3.cell? ⟨gb148, 0, none⟩ = some (.slice A0_0 l0_0.length c0_0) := (blk_cell BK148.out 0).trans rfl
        have hcz10_1 : w3.cell? ⟨gb148, 1, none⟩ = some (.slice A0_1 l0_1.length c0_1) := (blk_cell BK148.out 1).trans rfl
        have hfz10_0 := blk_frozen BK148.out 0
        have hfz10_1 := blk_frozen BK148.out 1
        go_wp2_with (first | ((with_reducible refine gate_callee (f := 52) rfl ?_); refine goesL_ (some 10) rfl rfl Try.func52 (by kernel_rfl) rfl #[.int .i64 (l0_0.length : Int), .int .i64 1, .int .i64 60] rfl (by (try simp only [List.map_toArray, List.map_cons, List.map_nil]); first | done | rfl | (simp only [List.length_drop, List.length_take]; rfl)) ?_; (with_reducible refine (impl_in.calls (l0_0.length : Int) 1 60 true _ A4.out).mono ?_); rintro e w' ⟨rfl, ⟨nd, rfl⟩⟩; refine ⟨_, rfl, ?_⟩) | (go_at_call 52; (with_reducible refine (impl_in.calls (l0_1.length : Int) 1 6 false _ A6.out).mono ?_); rintro e w' ⟨rfl, ⟨nd, rfl⟩⟩))
        go_meet
        case rel => exact ⟨_, (true), (by first | rfl | (simp; done) | (simp [*]; done)), H', ⟨by first | omega | exact Nat.le_refl _⟩, ⟨by (with_reducible repeat (first | refine blk_drewN ?_ _ | refine blk_drew ?_ | refine blk_alloc ?_ _)); exact BK148.out⟩, ⟨by repeat (first | (with_reducible first | exact HB.out | apply below_alloc | apply pw_below_drewN | apply below_drew1 | refine below_set ?_ GE148.out) | exact HB.out)⟩⟩
    · replace c5 := Bool.eq_false_iff.mpr c5
      subst c5
      have H1 : (impl_SuiteOk.j0 k true l0_0 l0_1) = some r := by rw [if_neg (show ¬ (false = true) by decide)] at H; exact H
      clear H
      have H := H1
      clear H1
      have H' := Aside0.mk H
      clear H
      have hcz11_0 : w3.cell? ⟨gb148, 0, none⟩ = some (.slice A0_0 l0_0.length c0_0) := (blk_cell BK148.out 0).trans rfl
      have hcz11_1 : w3.cell? ⟨gb148, 1, none⟩ = some (.slice A0_1 l0_1.length c0_1) := (blk_cell BK148.out 1).trans rfl
      have hfz11_0 := blk_frozen BK148.out 0
      have hfz11_1 := blk_frozen BK148.out 1
      go_wp2_with (first | ((with_reducible refine gate_callee (f := 52) rfl ?_); refine goesL_ (some 10) rfl rfl Try.func52 (by kernel_rfl) rfl #[.int .i64 (l0_0.length : Int), .int .i64 1, .int .i64 60] rfl (by (try simp only [List.map_toArray, List.map_cons, List.map_nil]); first | done | rfl | (simp only [List.length_drop, List.length_take]; rfl)) ?_; (with_reducible refine (impl_in.calls (l0_0.length : Int) 1 60 false _ A4.out).mono ?_); rintro e w' ⟨rfl, ⟨nd, rfl⟩⟩; refine ⟨_, rfl, ?_⟩))
      go_meet
      case rel => exact ⟨_, (true), (by first | rfl | (simp; done) | (simp [*]; done)), H', ⟨by first | omega | exact Nat.le_refl _⟩, ⟨by (with_reducible repeat (first | refine blk_drewN ?_ _ | refine blk_drew ?_ | refine blk_alloc ?_ _)); exact BK148.out⟩, ⟨by repeat (first | (with_reducible first | exact HB.out | apply below_alloc | apply pw_below_drewN | apply below_drew1 | refine below_set ?_ GE148.out) | exact HB.out)⟩⟩
  case rest =>
    clear HC2
    try clear p2
    try clear c4
    try clear c5
    try clear c7
    try clear hcz10_0
    try clear hcz10_1
    try clear hcz11_0
    try clear hcz11_1
    try clear hcz9_0
    try clear hcz9_1
    try clear hfz10_0
    try clear hfz10_1
    try clear hfz11_0
    try clear hfz11_1
    try clear hfz9_0
    try clear hfz9_1
    obtain ⟨kq, x27_1, rfl, HA, HJ1, BK148, HB⟩ := hcut
    cases kq with
    | zero => exact absurd HA.out (by simp [impl_SuiteOk.j0])
    | succ kj1 =>
      have H := HA.out
      clear HA
      simp only [impl_SuiteOk.j0] at H
      by_cases c12 : x27_1 = true
      · subst c12
        have H1 : (some false) = some r := by rw [if_pos rfl] at H; exact H
        clear H
        have H := H1
        clear H1
        obtain rfl := Option.some.inj H
        go_wp2
        go_ret
        exact ⟨by first | rfl | (simp [errW_none, errW_some] <;> rfl) | (simp [*, errW_none, errW_some] <;> rfl), by repeat (first | (with_reducible first | exact HB.out | apply below_alloc | apply pw_below_drewN | apply below_drew1 | refine below_set ?_ GE148.out) | exact HB.out)⟩
      · replace c12 := Bool.eq_false_iff.mpr c12
        subst c12
        have H1 : (impl_SuiteOk.l0 kj1 l0_0 (l0_0.length : Int) 0 l0_0 l0_1) = some r := by rw [if_neg (show ¬ (false = true) by decide)] at H; exact H
        clear H
        have H := H1
        clear H1
        have H' := Aside0.mk H
        clear H
        have hcz13_0 : wc.cell? ⟨gb148, 0, none⟩ = some (.slice A0_0 l0_0.length c0_0) := (blk_cell BK148.out 0).trans rfl
        have hcz13_1 : wc.cell? ⟨gb148, 1, none⟩ = some (.slice A0_1 l0_1.length c0_1) := (blk_cell BK148.out 1).trans rfl
        have hfz13_0 := blk_frozen BK148.out 0
        have hfz13_1 := blk_frozen BK148.out 1
        go_wp2
        go_loopg [31] kj1 (fun kq v31 w' => ∃ (x31_2 : Int), v31 = .int .i64 x31_2 ∧ Aside0 (impl_SuiteOk.l0 kq l0_0 (l0_0.length : Int) x31_2 l0_0 l0_1 = some r) ∧ Aside0 (kq ≤ kj1) ∧ Aside0 (w'.heap[gb148]? = some (.cells #[(.slice A0_0 l0_0.length c0_0), (.slice A0_1 l0_1.length c0_1)] 27 (0, 0))) ∧ Aside0 (Below w.heap.size w w'))
        case atStart => exact ⟨(0), (by first | rfl | (simp; done) | (simp [*]; done)), H', ⟨Nat.le_refl _⟩, ⟨by (with_reducible repeat (first | refine blk_drewN ?_ _ | refine blk_drew ?_ | refine blk_alloc ?_ _)); exact BK148.out⟩, ⟨by repeat (first | (with_reducible first | exact HB.out | apply below_alloc | apply pw_below_drewN | apply below_drew1 | refine below_set ?_ GE148.out) | exact HB.out)⟩⟩
        case round =>
          clear H'
          try clear c1
          try clear p2
          try clear c4
          try clear c5
          try clear c7
          try clear c12
          try clear hcz10_0
          try clear hcz10_1
          try clear hcz11_0
          try clear hcz11_1
          try clear hcz13_0
          try clear hcz13_1
          try clear hcz9_0
          try clear hcz9_1
          try clear hfz10_0
          try clear hfz10_1
          try clear hfz11_0
          try clear hfz11_1
          try clear hfz13_0
          try clear hfz13_1
          try clear hfz9_0
          try clear hfz9_1
          try clear p2
          obtain ⟨x31_2, rfl, HA, HK2, BK148, HB⟩ := hrel
          cases gk with
          | zero => exact absurd HA.out (by simp [impl_SuiteOk.l0])
          | succ k2 =>
            have H := HA.out
            clear HA
            simp only [impl_SuiteOk.l0] at H
            by_cases c14 : x31_2 < (l0_0.length : Int)
            · rw [if_pos c14] at H
              have c14b0 : decide (x31_2 < (l0_0.length : Int)) = true := decide_eq_true c14
              clear c14
              by_cases c15 : 0 ≤ x31_2
              · rw [if_pos c15] at H
                have c15b0 : decide (0 ≤ x31_2) = true := decide_eq_true c15
                clear c15
                by_cases c16 : x31_2 < (l0_0.length : Int)
                · rw [if_pos c16] at H
                  have c16b0 : decide (x31_2 < (l0_0.length : Int)) = true := decide_eq_true c16
                  clear c16
                  have H' := Aside0.mk H
                  clear H
                  have p152 : 0 ≤ (x31_2 : Int) := of_decide_eq_true (by first | (with_reducible assumption) | assumption)
                  have q152 : x31_2 < (l0_0.length : Int) := of_decide_eq_true (by first | (with_reducible assumption) | assumption)
                  obtain ⟨ad152, A152_0, c152_0, e152, hx152_0, hx152_1, hx152_2, hx152_3, hl152_0, hi152_0⟩ := at_T39 HR0_0.out x31_2 p152 q152
                  cases e152
                  replace hx152_0 := (HB.out.cell (World.block_lt_of_cell? w _ hx152_0)).trans hx152_0
                  replace hx152_1 := (HB.out.cell (World.block_lt_of_cell? w _ hx152_1)).trans hx152_1
                  replace hx152_2 := (HB.out.cell (World.block_lt_of_cell? w _ hx152_2)).trans hx152_2
                  replace hx152_3 := (HB.out.cell (World.block_lt_of_cell? w _ hx152_3)).trans hx152_3
                  have HR152_0 := Aside0.mk hi152_0
                  have HC152_0 := Aside0.mk hl152_0
                  clear hi152_0 hl152_0
                  replace p152 := eq_true p152
                  replace q152 := eq_true q152
                  go_wp2_with (first | ((with_reducible refine gate_dst (N := 4) rfl ?_); (try (refine gate_guard (by rfl) ?_; dsimp only)); refine box_event ?hg (N := 4) ?hd (cs := #[.slice none 0 0, .int .i64 0, .int .i64 0, .int .i64 0]) (t := 39) ?hr ?_; (case hd => rfl); (case hg => rfl); (case hr => first | (go_simp; done) | (go_simp; rfl)); intro gb153 hg w17 hbox hb; have n0_ := Aside0.mk (blk_below (g := gb148) (o := .cells #[.slice (some ad152) l0_0.length c0_0, .slice A0_1 l0_1.length c0_1] 27 (0, 0)) (by (with_reducible repeat (first | refine blk_drewN ?_ _ | refine blk_drew ?_ | refine blk_alloc ?_ _)); exact BK148.out) hb); have n1_ := Aside0.mk (below_step (by repeat (first | (with_reducible first | exact HB.out | apply below_alloc | apply pw_below_drewN | apply below_drew1 | refine below_set ?_ GE148.out) | exact HB.out)) hb); have n2_ := Aside0.mk (hbox); have n3_ := Aside0.mk ((by rw [hg]; exact (below_size (by repeat (first | (with_reducible first | exact HB.out | apply below_alloc | apply pw_below_drewN | apply below_drew1 | refine below_set ?_ GE148.out) | exact HB.out))) : w.heap.size ≤ gb153)); have n4_ := Aside0.mk ((by rw [hg]; exact (below_size (by repeat (first | (with_reducible first | exact HB.out | apply below_alloc | apply pw_below_drewN | apply below_drew1 | refine below_set ?_ GE148.out) | exact HB.out))) : w.heap.size ≤ gb153)); have n5_ := Aside0.mk ((by rw [hg]; exact Nat.ne_of_lt (blk_lt (g := gb148) (o := .cells #[.slice (some ad152) l0_0.length c0_0, .slice A0_1 l0_1.length c0_1] 27 (0, 0)) (by (with_reducible repeat (first | refine blk_drewN ?_ _ | refine blk_drew ?_ | refine blk_alloc ?_ _)); exact BK148.out)) : gb148 ≠ gb153)); have n6_ := Aside0.mk ((by rw [hg]; exact Nat.ne_of_gt (blk_lt (g := gb148) (o := .cells #[.slice (some ad152) l0_0.length c0_0, .slice A0_1 l0_1.length c0_1] 27 (0, 0)) (by (with_reducible repeat (first | refine blk_drewN ?_ _ | refine blk_drew ?_ | refine blk_alloc ?_ _)); exact BK148.out)) : gb153 ≠ gb148)); clear BK148; clear HB; have BK148 := n0_; have HB := n1_; have BK153 := n2_; have GW153 := n3_; have GE153 := n4_; have NB148_153 := n5_; have NB153_148 := n6_; clear n0_ n1_ n2_ n3_ n4_ n5_ n6_; clear hb hbox hg; have hnb18 := NB153_148.out; have hnc18 := NB148_153.out; have hcz19_0 : w17.cell? ⟨gb153, 0, none⟩ = some (.slice none 0 0) := (blk_cell BK153.out 0).trans rfl; have hcz19_1 : w17.cell? ⟨gb153, 1, none⟩ = some (.int .i64 0) := (blk_cell BK153.out 1).trans rfl; have hcz19_2 : w17.cell? ⟨gb153, 2, none⟩ = some (.int .i64 0) := (blk_cell BK153.out 2).trans rfl; have hcz19_3 : w17.cell? ⟨gb153, 3, none⟩ = some (.int .i64 0) := (blk_cell BK153.out 3).trans rfl; have hfz19_0 := blk_frozen BK153.out 0; have hfz19_1 := blk_frozen BK153.out 1; have hfz19_2 := blk_frozen BK153.out 2; have hfz19_3 := blk_frozen BK153.out 3))
                  go_loopg [39] k2 (fun kq v39 w' => ∃ (x39_3 : Int), v39 = .int .i64 x39_3 ∧ Aside0 (impl_SuiteOk.l1 kq x31_2 l0_0 (l0_0.length : Int) x31_2 ((rd_T39 l0_0 x31_2).f0) (((rd_T39 l0_0 x31_2).f0).length : Int) x39_3 l0_0 l0_1 ((rd_T39 l0_0 x31_2).f0) ((rd_T39 l0_0 x31_2).f1) ((rd_T39 l0_0 x31_2).f2) ((rd_T39 l0_0 x31_2).f3) = some r) ∧ Aside0 (kq ≤ k2) ∧ Aside0 (w'.heap[gb148]? = some (.cells #[(.slice (some ad152) l0_0.length c0_0), (.slice A0_1 l0_1.length c0_1)] 27 (0, 0))) ∧ Aside0 (w'.heap[gb153]? = some (.cells #[(.slice A152_0 ((rd_T39 l0_0 x31_2).f0).length c152_0), .int .i64 ((rd_T39 l0_0 x31_2).f1), .int .i64 ((rd_T39 l0_0 x31_2).f2), .int .i64 ((rd_T39 l0_0 x31_2).f3)] 39 (0, 0))) ∧ Aside0 (Below w.heap.size w w'))
                  case atStart => exact ⟨(0), (by first | rfl | (simp; done) | (simp [*]; done)), H', ⟨Nat.le_refl _⟩, ⟨by (with_reducible repeat (first | refine blk_drewN ?_ _ | refine blk_drew ?_ | refine blk_alloc ?_ _)); refine blk_far ?_ NB148_153.out _; (with_reducible repeat (first | refine blk_drewN ?_ _ | refine blk_drew ?_ | refine blk_alloc ?_ _)); refine blk_far ?_ NB148_153.out _; (with_reducible repeat (first | refine blk_drewN ?_ _ | refine blk_drew ?_ | refine blk_alloc ?_ _)); refine blk_far ?_ NB148_153.out _; (with_reducible repeat (first | refine blk_drewN ?_ _ | refine blk_drew ?_ | refine blk_alloc ?_ _)); refine blk_far ?_ NB148_153.out _; (with_reducible repeat (first | refine blk_drewN ?_ _ | refine blk_drew ?_ | refine blk_alloc ?_ _)); exact BK148.out⟩, ⟨by (with_reducible repeat (first | refine blk_drewN ?_ _ | refine blk_drew ?_ | refine blk_alloc ?_ _)); refine blk_put (cs := #[.slice A152_0 ((rd_T39 l0_0 x31_2).f0).length c152_0, .int .i64 ((rd_T39 l0_0 x31_2).f1), .int .i64 ((rd_T39 l0_0 x31_2).f2), .int .i64 0]) ?_ 3 _ rfl; (with_reducible repeat (first | refine blk_drewN ?_ _ | refine blk_drew ?_ | refine blk_alloc ?_ _)); refine blk_put (cs := #[.slice A152_0 ((rd_T39 l0_0 x31_2).f0).length c152_0, .int .i64 ((rd_T39 l0_0 x31_2).f1), .int .i64 0, .int .i64 0]) ?_ 2 _ rfl; (with_reducible repeat (first | refine blk_drewN ?_ _ | refine blk_drew ?_ | refine blk_alloc ?_ _)); refine blk_put (cs := #[.slice A152_0 ((rd_T39 l0_0 x31_2).f0).length c152_0, .int .i64 0, .int .i64 0, .int .i64 0]) ?_ 1 _ rfl; (with_reducible repeat (first | refine blk_drewN ?_ _ | refine blk_drew ?_ | refine blk_alloc ?_ _)); refine blk_put (cs := #[.slice none 0 0, .int .i64 0, .int .i64 0, .int .i64 0]) ?_ 0 _ rfl; (with_reducible repeat (first | refine blk_drewN ?_ _ | refine blk_drew ?_ | refine blk_alloc ?_ _)); exact BK153.out⟩, ⟨by repeat (first | (with_reducible first | exact HB.out | apply below_alloc | apply pw_below_drewN | apply below_drew1 | refine below_set ?_ GE148.out | refine below_set ?_ GE153.out) | exact HB.out)⟩⟩
                  case round =>
                    clear H'
                    try clear c1
                    try clear p1
                    try clear q1
                    try clear hx1
                    try clear p2
                    try clear c4
                    try clear c5
                    try clear c7
                    try clear c12
                    try clear c14
                    try clear c14b0
                    try clear c15
                    try clear c15b0
                    try clear p15
                    try clear q15
                    try clear hx15
                    try clear c16
                    try clear c16b0
                    try clear c18
                    try clear hcz10_0
                    try clear hcz10_1
                    try clear hcz11_0
                    try clear hcz11_1
                    try clear hcz13_0
                    try clear hcz13_1
                    try clear hcz19_0
                    try clear hcz19_1
                    try clear hcz19_2
                    try clear hcz19_3
                    try clear hcz9_0
                    try clear hcz9_1
                    try clear hfz10_0
                    try clear hfz10_1
                    try clear hfz11_0
                    try clear hfz11_1
                    try clear hfz13_0
                    try clear hfz13_1
                    try clear hfz19_0
                    try clear hfz19_1
                    try clear hfz19_2
                    try clear hfz19_3
                    try clear hfz9_0
                    try clear hfz9_1
                    try clear hx152_0
                    try clear hx152_1
                    try clear hx152_2
                    try clear hx152_3
                    try clear p152
                    try clear p2
                    try clear q152
                    obtain ⟨x39_3, rfl, HA, HK3, BK148, BK153, HB⟩ := hrel
                    cases gk with
                    | zero => exact absurd HA.out (by simp [impl_SuiteOk.l1])
                    | succ k3 =>
                      have H := HA.out
                      clear HA
                      simp only [impl_SuiteOk.l1] at H
                      by_cases c20 : x39_3 < (((rd_T39 l0_0 x31_2).f0).length : Int)
                      · rw [if_pos c20] at H
                        have c20b0 : decide (x39_3 < (((rd_T39 l0_0 x31_2).f0).length : Int)) = true := decide_eq_true c20
                        clear c20
                        by_cases c21 : 0 ≤ x39_3
                        · rw [if_pos c21] at H
                          have c21b0 : decide (0 ≤ x39_3) = true := decide_eq_true c21
                          clear c21
                          by_cases c22 : x39_3 < (((rd_T39 l0_0 x31_2).f0).length : Int)
                          · rw [if_pos c22] at H
                            have c22b0 : decide (x39_3 < (((rd_T39 l0_0 x31_2).f0).length : Int)) = true := decide_eq_true c22
                            clear c22
                            replace H := Option.bind_eq_some_iff.mp H
                            obtain ⟨t155, A230, H⟩ := H
                            replace H : (if t155 = true then (if x39_3 > 0 then (if 0 ≤ (wrap64 (x39_3 - 1)) then (if (wrap64 (x39_3 - 1)) < (((rd_T39 l0_0 x31_2).f0).length : Int) then (if (rd ((rd_T39 l0_0 x31_2).f0) (wrap64 (x39_3 - 1))) ≥ (rd ((rd_T39 l0_0 x31_2).f0) x39_3) then (some false) else (impl_SuiteOk.l1 k3 x31_2 l0_0 (l0_0.length : Int) x31_2 ((rd_T39 l0_0 x31_2).f0) (((rd_T39 l0_0 x31_2).f0).length : Int) (wrap64 (x39_3 + 1)) l0_0 l0_1 ((rd_T39 l0_0 x31_2).f0) ((rd_T39 l0_0 x31_2).f1) ((rd_T39 l0_0 x31_2).f2) ((rd_T39 l0_0 x31_2).f3))) else (none)) else (none)) else (impl_SuiteOk.l1 k3 x31_2 l0_0 (l0_0.length : Int) x31_2 ((rd_T39 l0_0 x31_2).f0) (((rd_T39 l0_0 x31_2).f0).length : Int) (wrap64 (x39_3 + 1)) l0_0 l0_1 ((rd_T39 l0_0 x31_2).f0) ((rd_T39 l0_0 x31_2).f1) ((rd_T39 l0_0 x31_2).f2) ((rd_T39 l0_0 x31_2).f3))) else (some false)) = some r := H
                            have A23 := Aside0.mk A230
                            clear A230
                            by_cases c24 : t155 = true
                            · subst c24
                              have H1 : (if x39_3 > 0 then (if 0 ≤ (wrap64 (x39_3 - 1)) then (if (wrap64 (x39_3 - 1)) < (((rd_T39 l0_0 x31_2).f0).length : Int) then (if (rd ((rd_T39 l0_0 x31_2).f0) (wrap64 (x39_3 - 1))) ≥ (rd ((rd_T39 l0_0 x31_2).f0) x39_3) then (some false) else (impl_SuiteOk.l1 k3 x31_2 l0_0 (l0_0.length : Int) x31_2 ((rd_T39 l0_0 x31_2).f0) (((rd_T39 l0_0 x31_2).f0).length : Int) (wrap64 (x39_3 + 1)) l0_0 l0_1 ((rd_T39 l0_0 x31_2).f0) ((rd_T39 l0_0 x31_2).f1) ((rd_T39 l0_0 x31_2).f2) ((rd_T39 l0_0 x31_2).f3))) else (none)) else (none)) else (impl_SuiteOk.l1 k3 x31_2 l0_0 (l0_0.length : Int) x31_2 ((rd_T39 l0_0 x31_2).f0) (((rd_T39 l0_0 x31_2).f0).length : Int) (wrap64 (x39_3 + 1)) l0_0 l0_1 ((rd_T39 l0_0 x31_2).f0) ((rd_T39 l0_0 x31_2).f1) ((rd_T39 l0_0 x31_2).f2) ((rd_T39 l0_0 x31_2).f3))) = some r := by rw [if_pos rfl] at H; exact H
                              clear H
                              have H := H1
                              clear H1
                              by_cases c25 : x39_3 > 0
                              · rw [if_pos c25] at H
                                have c25b0 : decide (0 < x39_3) = true := decide_eq_true c25
                                clear c25
                                obtain ⟨ji26, hji26⟩ : ∃ j_ : Int, (wrap64 (x39_3 - 1)) = j_ := ⟨_, rfl⟩
                                replace H : (if 0 ≤ (ji26) then (if (ji26) < (((rd_T39 l0_0 x31_2).f0).length : Int) then (if (rd ((rd_T39 l0_0 x31_2).f0) (ji26)) ≥ (rd ((rd_T39 l0_0 x31_2).f0) x39_3) then (some false) else (impl_SuiteOk.l1 k3 x31_2 l0_0 (l0_0.length : Int) x31_2 ((rd_T39 l0_0 x31_2).f0) (((rd_T39 l0_0 x31_2).f0).length : Int) (wrap64 (x39_3 + 1)) l0_0 l0_1 ((rd_T39 l0_0 x31_2).f0) ((rd_T39 l0_0 x31_2).f1) ((rd_T39 l0_0 x31_2).f2) ((rd_T39 l0_0 x31_2).f3))) else (none)) else (none)) = some r := by first | (rw [hji26] at H; exact H) | (simp only [hji26] at H ⊢; exact H)
                                (try rw [hji26] at A23)
                                have hji26w : (IntKind.i64.wrap (x39_3 - 1)) = ji26 := (i64_w _).trans hji26
                                by_cases c27 : 0 ≤ (ji26)
                                · rw [if_pos c27] at H
                                  have c27b0 : decide (0 ≤ (ji26)) = true := decide_eq_true c27
                                  clear c27
                                  by_cases c28 : (ji26) < (((rd_T39 l0_0 x31_2).f0).length : Int)
                                  · rw [if_pos c28] at H
                                    have c28b0 : decide ((ji26) < (((rd_T39 l0_0 x31_2).f0).length : Int)) = true := decide_eq_true c28
                                    clear c28
                                    by_cases c29 : (rd ((rd_T39 l0_0 x31_2).f0) (ji26)) ≥ (rd ((rd_T39 l0_0 x31_2).f0) x39_3)
                                    · rw [if_pos c29] at H
                                      have c29b0 : decide ((rd ((rd_T39 l0_0 x31_2).f0) x39_3) ≤ (rd ((rd_T39 l0_0 x31_2).f0) (ji26))) = true := decide_eq_true c29
                                      clear c29
                                      obtain rfl := Option.some.inj H
                                      have p154 : 0 ≤ (x39_3 : Int) := of_decide_eq_true (by first | (with_reducible assumption) | assumption)
                                      have q154 : x39_3 < (((rd_T39 l0_0 x31_2).f0).length : Int) := of_decide_eq_true (by first | (with_reducible assumption) | assumption)
                                      obtain ⟨ad154, e154, hx154_0⟩ := Kd.at_int HR152_0.out x39_3 p154 q154
                                      cases e154
                                      replace hx154_0 := (HB.out.cell (World.block_lt_of_cell? w _ hx154_0)).trans hx154_0
                                      replace p154 := eq_true p154
                                      replace q154 := eq_true q154
                                      go_wp2_with (first | ((with_reducible refine gate_callee (f := 52) rfl ?_); refine goesL_ (some 46) rfl rfl Try.func52 (by kernel_rfl) rfl #[.int .i64 (rd ((rd_T39 l0_0 x31_2).f0) x39_3), .int .i64 1, .int .i64 x31_2] rfl (by (try simp only [List.map_toArray, List.map_cons, List.map_nil]); first | done | rfl | (simp only [List.length_drop, List.length_take]; rfl)) ?_; (with_reducible refine (impl_in.calls (rd ((rd_T39 l0_0 x31_2).f0) x39_3) 1 x31_2 true _ A23.out).mono ?_); rintro e w' ⟨rfl, ⟨nd, rfl⟩⟩; refine ⟨_, rfl, ?_⟩; have hnb30 := NB153_148.out; have hnc30 := NB148_153.out; have hcz31_0 : wr.cell? ⟨gb153, 0, none⟩ = some (.slice (some ad154) ((rd_T39 l0_0 x31_2).f0).length c152_0) := (blk_cell BK153.out 0).trans rfl; have hcz31_1 : wr.cell? ⟨gb153, 1, none⟩ = some (.int .i64 ((rd_T39 l0_0 x31_2).f1)) := (blk_cell BK153.out 1).trans rfl; have hcz31_2 : wr.cell? ⟨gb153, 2, none⟩ = some (.int .i64 ((rd_T39 l0_0 x31_2).f2)) := (blk_cell BK153.out 2).trans rfl; have hcz31_3 : wr.cell? ⟨gb153, 3, none⟩ = some (.int .i64 ((rd_T39 l0_0 x31_2).f3)) := (blk_cell BK153.out 3).trans rfl; have hfz31_0 := blk_frozen BK153.out 0; have hfz31_1 := blk_frozen BK153.out 1; have hfz31_2 := blk_frozen BK153.out 2; have hfz31_3 := blk_frozen BK153.out 3; have p156 : 0 ≤ ((ji26) : Int) := of_decide_eq_true (by first | (with_reducible assumption) | assumption); have q156 : (ji26) < (((rd_T39 l0_0 x31_2).f0).length : Int) := of_decide_eq_true (by first | (with_reducible assumption) | assumption); obtain ⟨ad156, e156, hx156_0⟩ := Kd.at_int HR152_0.out (ji26) p156 q156; obtain rfl : ad154 = ad156 := (by injection e156); replace hx156_0 := (HB.out.cell (World.block_lt_of_cell? w _ hx156_0)).trans hx156_0; replace p156 := eq_true p156; replace q156 := eq_true q156))
                                      go_ret
                                      exact ⟨by first | rfl | (simp [errW_none, errW_some] <;> rfl) | (simp only [← hji26]; first | rfl | (simp [errW_none, errW_some] <;> rfl)) | (simp [*, errW_none, errW_some] <;> rfl), by repeat (first | (with_reducible first | exact HB.out | apply below_alloc | apply pw_below_drewN | apply below_drew1 | refine below_set ?_ GE148.out | refine below_set ?_ GE153.out) | exact HB.out)⟩
                                    · rw [if_neg c29] at H
                                      have c29b0 : decide ((rd ((rd_T39 l0_0 x31_2).f0) x39_3) ≤ (rd ((rd_T39 l0_0 x31_2).f0) (ji26))) = false := decide_eq_false c29
                                      clear c29
                                      have H' := Aside0.mk H
                                      clear H
                                      have p154 : 0 ≤ (x39_3 : Int) := of_decide_eq_true (by first | (with_reducible assumption) | assumption)
                                      have q154 : x39_3 < (((rd_T39 l0_0 x31_2).f0).length : Int) := of_decide_eq_true (by first | (with_reducible assumption) | assumption)
                                      obtain ⟨ad154, e154, hx154_0⟩ := Kd.at_int HR152_0.out x39_3 p154 q154
                                      cases e154
                                      replace hx154_0 := (HB.out.cell (World.block_lt_of_cell? w _ hx154_0)).trans hx154_0
                                      replace p154 := eq_true p154
                                      replace q154 := eq_true q154
                                      go_wp2_with (first | ((with_reducible refine gate_callee (f := 52) rfl ?_); refine goesL_ (some 46) rfl rfl Try.func52 (by kernel_rfl) rfl #[.int .i64 (rd ((rd_T39 l0_0 x31_2).f0) x39_3), .int .i64 1, .int .i64 x31_2] rfl (by (try simp only [List.map_toArray, List.map_cons, List.map_nil]); first | done | rfl | (simp only [List.length_drop, List.length_take]; rfl)) ?_; (with_reducible refine (impl_in.calls (rd ((rd_T39 l0_0 x31_2).f0) x39_3) 1 x31_2 true _ A23.out).mono ?_); rintro e w' ⟨rfl, ⟨nd, rfl⟩⟩; refine ⟨_, rfl, ?_⟩; have hnb32 := NB153_148.out; have hnc32 := NB148_153.out; have hcz33_0 : wr.cell? ⟨gb153, 0, none⟩ = some (.slice (some ad154) ((rd_T39 l0_0 x31_2).f0).length c152_0) := (blk_cell BK153.out 0).trans rfl; have hcz33_1 : wr.cell? ⟨gb153, 1, none⟩ = some (.int .i64 ((rd_T39 l0_0 x31_2).f1)) := (blk_cell BK153.out 1).trans rfl; have hcz33_2 : wr.cell? ⟨gb153, 2, none⟩ = some (.int .i64 ((rd_T39 l0_0 x31_2).f2)) := (blk_cell BK153.out 2).trans rfl; have hcz33_3 : wr.cell? ⟨gb153, 3, none⟩ = some (.int .i64 ((rd_T39 l0_0 x31_2).f3)) := (blk_cell BK153.out 3).trans rfl; have hfz33_0 := blk_frozen BK153.out 0; have hfz33_1 := blk_frozen BK153.out 1; have hfz33_2 := blk_frozen BK153.out 2; have hfz33_3 := blk_frozen BK153.out 3; have p156 : 0 ≤ ((ji26) : Int) := of_decide_eq_true (by first | (with_reducible assumption) | assumption); have q156 : (ji26) < (((rd_T39 l0_0 x31_2).f0).length : Int) := of_decide_eq_true (by first | (with_reducible assumption) | assumption); obtain ⟨ad156, e156, hx156_0⟩ := Kd.at_int HR152_0.out (ji26) p156 q156; obtain rfl : ad154 = ad156 := (by injection e156); replace hx156_0 := (HB.out.cell (World.block_lt_of_cell? w _ hx156_0)).trans hx156_0; replace p156 := eq_true p156; replace q156 := eq_true q156))
                                      go_roundg k3
                                      case measure => have := HJ1.out; have := HK2.out; have := HK3.out; omega
                                      case rel => exact ⟨(wrap64 (x39_3 + 1)), (by first | rfl | (simp; done) | (simp [*]; done)), H', ⟨by have := HJ1.out; have := HK2.out; have := HK3.out; omega⟩, ⟨by (with_reducible repeat (first | refine blk_drewN ?_ _ | refine blk_drew ?_ | refine blk_alloc ?_ _)); exact BK148.out⟩, ⟨by (with_reducible repeat (first | refine blk_drewN ?_ _ | refine blk_drew ?_ | refine blk_alloc ?_ _)); exact BK153.out⟩, ⟨by repeat (first | (with_reducible first | exact HB.out | apply below_alloc | apply pw_below_drewN | apply below_drew1 | refine below_set ?_ GE148.out | refine below_set ?_ GE153.out) | exact HB.out)⟩⟩
                                  · rw [if_neg c28] at H
                                    exact absurd H (by simp)
                                · rw [if_neg c27] at H
                                  exact absurd H (by simp)
                              · rw [if_neg c25] at H
                                have c25b0 : decide (0 < x39_3) = false := decide_eq_false c25
                                clear c25
                                have H' := Aside0.mk H
                                clear H
                                have p154 : 0 ≤ (x39_3 : Int) := of_decide_eq_true (by first | (with_reducible assumption) | assumption)
                                have q154 : x39_3 < (((rd_T39 l0_0 x31_2).f0).length : Int) := of_decide_eq_true (by first | (with_reducible assumption) | assumption)
                                obtain ⟨ad154, e154, hx154_0⟩ := Kd.at_int HR152_0.out x39_3 p154 q154
                                cases e154
                                replace hx154_0 := (HB.out.cell (World.block_lt_of_cell? w _ hx154_0)).trans hx154_0
                                replace p154 := eq_true p154
                                replace q154 := eq_true q154
                                go_wp2_with (first | ((with_reducible refine gate_callee (f := 52) rfl ?_); refine goesL_ (some 46) rfl rfl Try.func52 (by kernel_rfl) rfl #[.int .i64 (rd ((rd_T39 l0_0 x31_2).f0) x39_3), .int .i64 1, .int .i64 x31_2] rfl (by (try simp only [List.map_toArray, List.map_cons, List.map_nil]); first | done | rfl | (simp only [List.length_drop, List.length_take]; rfl)) ?_; (with_reducible refine (impl_in.calls (rd ((rd_T39 l0_0 x31_2).f0) x39_3) 1 x31_2 true _ A23.out).mono ?_); rintro e w' ⟨rfl, ⟨nd, rfl⟩⟩; refine ⟨_, rfl, ?_⟩))
                                go_roundg k3
                                case measure => have := HJ1.out; have := HK2.out; have := HK3.out; omega
                                case rel => exact ⟨(wrap64 (x39_3 + 1)), (by first | rfl | (simp; done) | (simp [*]; done)), H', ⟨by have := HJ1.out; have := HK2.out; have := HK3.out; omega⟩, ⟨by (with_reducible repeat (first | refine blk_drewN ?_ _ | refine blk_drew ?_ | refine blk_alloc ?_ _)); exact BK148.out⟩, ⟨by (with_reducible repeat (first | refine blk_drewN ?_ _ | refine blk_drew ?_ | refine blk_alloc ?_ _)); exact BK153.out⟩, ⟨by repeat (first | (with_reducible first | exact HB.out | apply below_alloc | apply pw_below_drewN | apply below_drew1 | refine below_set ?_ GE148.out | refine below_set ?_ GE153.out) | exact HB.out)⟩⟩
                            · replace c24 := Bool.eq_false_iff.mpr c24
                              subst c24
                              have H1 : (some false) = some r := by rw [if_neg (show ¬ (false = true) by decide)] at H; exact H
                              clear H
                              have H := H1
                              clear H1
                              obtain rfl := Option.some.inj H
                              have p154 : 0 ≤ (x39_3 : Int) := of_decide_eq_true (by first | (with_reducible assumption) | assumption)
                              have q154 : x39_3 < (((rd_T39 l0_0 x31_2).f0).length : Int) := of_decide_eq_true (by first | (with_reducible assumption) | assumption)
                              obtain ⟨ad154, e154, hx154_0⟩ := Kd.at_int HR152_0.out x39_3 p154 q154
                              cases e154
                              replace hx154_0 := (HB.out.cell (World.block_lt_of_cell? w _ hx154_0)).trans hx154_0
                              replace p154 := eq_true p154
                              replace q154 := eq_true q154
                              go_wp2_with (first | ((with_reducible refine gate_callee (f := 52) rfl ?_); refine goesL_ (some 46) rfl rfl Try.func52 (by kernel_rfl) rfl #[.int .i64 (rd ((rd_T39 l0_0 x31_2).f0) x39_3), .int .i64 1, .int .i64 x31_2] rfl (by (try simp only [List.map_toArray, List.map_cons, List.map_nil]); first | done | rfl | (simp only [List.length_drop, List.length_take]; rfl)) ?_; (with_reducible refine (impl_in.calls (rd ((rd_T39 l0_0 x31_2).f0) x39_3) 1 x31_2 false _ A23.out).mono ?_); rintro e w' ⟨rfl, ⟨nd, rfl⟩⟩; refine ⟨_, rfl, ?_⟩))
                              go_ret
                              exact ⟨by first | rfl | (simp [errW_none, errW_some] <;> rfl) | (simp [*, errW_none, errW_some] <;> rfl), by repeat (first | (with_reducible first | exact HB.out | apply below_alloc | apply pw_below_drewN | apply below_drew1 | refine below_set ?_ GE148.out | refine below_set ?_ GE153.out) | exact HB.out)⟩
                          · rw [if_neg c22] at H
                            exact absurd H (by simp)
                        · rw [if_neg c21] at H
                          exact absurd H (by simp)
                      · rw [if_neg c20] at H
                        have c20b0 : decide (x39_3 < (((rd_T39 l0_0 x31_2).f0).length : Int)) = false := decide_eq_false c20
                        clear c20
                        replace H := Option.bind_eq_some_iff.mp H
                        obtain ⟨t157, A340, H⟩ := H
                        replace H : (if t157 = true then ((impl_in.f ((rd_T39 l0_0 x31_2).f2) 0 1000000000000).bind fun t158 => (if t158 = true then ((impl_in.f ((rd_T39 l0_0 x31_2).f3) 1 5).bind fun t159 => (if t159 = true then (impl_SuiteOk.l0 k3 l0_0 (l0_0.length : Int) (wrap64 (x31_2 + 1)) l0_0 l0_1) else (some false))) else (some false))) else (some false)) = some r := H
                        have A34 := Aside0.mk A340
                        clear A340
                        by_cases c35 : t157 = true
                        · subst c35
                          have H1 : ((impl_in.f ((rd_T39 l0_0 x31_2).f2) 0 1000000000000).bind fun t158 => (if t158 = true then ((impl_in.f ((rd_T39 l0_0 x31_2).f3) 1 5).bind fun t159 => (if t159 = true then (impl_SuiteOk.l0 k3 l0_0 (l0_0.length : Int) (wrap64 (x31_2 + 1)) l0_0 l0_1) else (some false))) else (some false))) = some r := by rw [if_pos rfl] at H; exact H
                          clear H
                          have H := H1
                          clear H1
                          replace H := Option.bind_eq_some_iff.mp H
                          obtain ⟨t158, A360, H⟩ := H
                          replace H : (if t158 = true then ((impl_in.f ((rd_T39 l0_0 x31_2).f3) 1 5).bind fun t159 => (if t159 = true then (impl_SuiteOk.l0 k3 l0_0 (l0_0.length : Int) (wrap64 (x31_2 + 1)) l0_0 l0_1) else (some false))) else (some false)) = some r := H
                          have A36 := Aside0.mk A360
                          clear A360
                          by_cases c37 : t158 = true
                          · subst c37
                            have H1 : ((impl_in.f ((rd_T39 l0_0 x31_2).f3) 1 5).bind fun t159 => (if t159 = true then (impl_SuiteOk.l0 k3 l0_0 (l0_0.length : Int) (wrap64 (x31_2 + 1)) l0_0 l0_1) else (some false))) = some r := by rw [if_pos rfl] at H; exact H
                            clear H
                            have H := H1
                            clear H1
                            replace H := Option.bind_eq_some_iff.mp H
                            obtain ⟨t159, A380, H⟩ := H
                            replace H : (if t159 = true then (impl_SuiteOk.l0 k3 l0_0 (l0_0.length : Int) (wrap64 (x31_2 + 1)) l0_0 l0_1) else (some false)) = some r := H
                            have A38 := Aside0.mk A380
                            clear A380
                            by_cases c39 : t159 = true
                            · subst c39
                              have H1 : (impl_SuiteOk.l0 k3 l0_0 (l0_0.length : Int) (wrap64 (x31_2 + 1)) l0_0 l0_1) = some r := by rw [if_pos rfl] at H; exact H
                              clear H
                              have H := H1
                              clear H1
                              have H' := Aside0.mk H
                              clear H
                              have hnb40 := NB153_148.out
                              have hnc40 := NB148_153.out
                              have hcz41_0 : wr.cell? ⟨gb153, 0, none⟩ = some (.slice A152_0 ((rd_T39 l0_0 x31_2).f0).length c152_0) := (blk_cell BK153.out 0).trans rfl
                              have hcz41_1 : wr.cell? ⟨gb153, 1, none⟩ = some (.int .i64 ((rd_T39 l0_0 x31_2).f1)) := (blk_cell BK153.out 1).trans rfl
                              have hcz41_2 : wr.cell? ⟨gb153, 2, none⟩ = some (.int .i64 ((rd_T39 l0_0 x31_2).f2)) := (blk_cell BK153.out 2).trans rfl
                              have hcz41_3 : wr.cell? ⟨gb153, 3, none⟩ = some (.int .i64 ((rd_T39 l0_0 x31_2).f3)) := (blk_cell BK153.out 3).trans rfl
                              have hfz41_0 := blk_frozen BK153.out 0
                              have hfz41_1 := blk_frozen BK153.out 1
                              have hfz41_2 := blk_frozen BK153.out 2
                              have hfz41_3 := blk_frozen BK153.out 3
                              have hcz42_0 : wr.cell? ⟨gb148, 0, none⟩ = some (.slice (some ad152) l0_0.length c0_0) := (blk_cell BK148.out 0).trans rfl
                              have hcz42_1 : wr.cell? ⟨gb148, 1, none⟩ = some (.slice A0_1 l0_1.length c0_1) := (blk_cell BK148.out 1).trans rfl
                              have hfz42_0 := blk_frozen BK148.out 0
                              have hfz42_1 := blk_frozen BK148.out 1
                              go_wp2_with (first | ((with_reducible refine gate_callee (f := 52) rfl ?_); refine goesL_ (some 68) rfl rfl Try.func52 (by kernel_rfl) rfl #[.int .i64 ((rd_T39 l0_0 x31_2).f1), .int .i64 1, .int .i64 (l0_1.length : Int)] rfl (by (try simp only [List.map_toArray, List.map_cons, List.map_nil]); first | done | rfl | (simp only [List.length_drop, List.length_take]; rfl)) ?_; (with_reducible refine (impl_in.calls ((rd_T39 l0_0 x31_2).f1) 1 (l0_1.length : Int) true _ A34.out).mono ?_); rintro e w' ⟨rfl, ⟨nd, rfl⟩⟩; refine ⟨_, rfl, ?_⟩) | (go_at_call 52; (with_reducible refine (impl_in.calls ((rd_T39 l0_0 x31_2).f2) 0 1000000000000 true _ A36.out).mono ?_); rintro e w' ⟨rfl, ⟨nd, rfl⟩⟩) | (go_at_call 52; (with_reducible refine (impl_in.calls ((rd_T39 l0_0 x31_2).f3) 1 5 true _ A38.out).mono ?_); rintro e w' ⟨rfl, ⟨nd, rfl⟩⟩))
                              go_roundg k3
                              case measure => have := HJ1.out; have := HK2.out; have := HK3.out; omega
                              case rel => exact ⟨(wrap64 (x31_2 + 1)), (by first | rfl | (simp; done) | (simp [*]; done)), H', ⟨by have := HJ1.out; have := HK2.out; have := HK3.out; omega⟩, ⟨by (with_reducible repeat (first | refine blk_drewN ?_ _ | refine blk_drew ?_ | refine blk_alloc ?_ _)); exact BK148.out⟩, ⟨by repeat (first | (with_reducible first | exact HB.out | apply below_alloc | apply pw_below_drewN | apply below_drew1 | refine below_set ?_ GE148.out | refine below_set ?_ GE153.out) | exact HB.out)⟩⟩
                            · replace c39 := Bool.eq_false_iff.mpr c39
                              subst c39
                              have H1 : (some false) = some r := by rw [if_neg (show ¬ (false = true) by decide)] at H; exact H
                              clear H
                              have H := H1
                              clear H1
                              obtain rfl := Option.some.inj H
                              have hnb43 := NB153_148.out
                              have hnc43 := NB148_153.out
                              have hcz44_0 : wr.cell? ⟨gb153, 0, none⟩ = some (.slice A152_0 ((rd_T39 l0_0 x31_2).f0).length c152_0) := (blk_cell BK153.out 0).trans rfl
                              have hcz44_1 : wr.cell? ⟨gb153, 1, none⟩ = some (.int .i64 ((rd_T39 l0_0 x31_2).f1)) := (blk_cell BK153.out 1).trans rfl
                              have hcz44_2 : wr.cell? ⟨gb153, 2, none⟩ = some (.int .i64 ((rd_T39 l0_0 x31_2).f2)) := (blk_cell BK153.out 2).trans rfl
                              have hcz44_3 : wr.cell? ⟨gb153, 3, none⟩ = some (.int .i64 ((rd_T39 l0_0 x31_2).f3)) := (blk_cell BK153.out 3).trans rfl
                              have hfz44_0 := blk_frozen BK153.out 0
                              have hfz44_1 := blk_frozen BK153.out 1
                              have hfz44_2 := blk_frozen BK153.out 2
                              have hfz44_3 := blk_frozen BK153.out 3
                              have hcz45_0 : wr.cell? ⟨gb148, 0, none⟩ = some (.slice (some ad152) l0_0.length c0_0) := (blk_cell BK148.out 0).trans rfl
                              have hcz45_1 : wr.cell? ⟨gb148, 1, none⟩ = some (.slice A0_1 l0_1.length c0_1) := (blk_cell BK148.out 1).trans rfl
                              have hfz45_0 := blk_frozen BK148.out 0
                              have hfz45_1 := blk_frozen BK148.out 1
                              go_wp2_with (first | ((with_reducible refine gate_callee (f := 52) rfl ?_); refine goesL_ (some 68) rfl rfl Try.func52 (by kernel_rfl) rfl #[.int .i64 ((rd_T39 l0_0 x31_2).f1), .int .i64 1, .int .i64 (l0_1.length : Int)] rfl (by (try simp only [List.map_toArray, List.map_cons, List.map_nil]); first | done | rfl | (simp only [List.length_drop, List.length_take]; rfl)) ?_; (with_reducible refine (impl_in.calls ((rd_T39 l0_0 x31_2).f1) 1 (l0_1.length : Int) true _ A34.out).mono ?_); rintro e w' ⟨rfl, ⟨nd, rfl⟩⟩; refine ⟨_, rfl, ?_⟩) | (go_at_call 52; (with_reducible refine (impl_in.calls ((rd_T39 l0_0 x31_2).f2) 0 1000000000000 true _ A36.out).mono ?_); rintro e w' ⟨rfl, ⟨nd, rfl⟩⟩) | (go_at_call 52; (with_reducible refine (impl_in.calls ((rd_T39 l0_0 x31_2).f3) 1 5 false _ A38.out).mono ?_); rintro e w' ⟨rfl, ⟨nd, rfl⟩⟩))
                              go_ret
                              exact ⟨by first | rfl | (simp [errW_none, errW_some] <;> rfl) | (simp [*, errW_none, errW_some] <;> rfl), by repeat (first | (with_reducible first | exact HB.out | apply below_alloc | apply pw_below_drewN | apply below_drew1 | refine below_set ?_ GE148.out | refine below_set ?_ GE153.out) | exact HB.out)⟩
                          · replace c37 := Bool.eq_false_iff.mpr c37
                            subst c37
                            have H1 : (some false) = some r := by rw [if_neg (show ¬ (false = true) by decide)] at H; exact H
                            clear H
                            have H := H1
                            clear H1
                            obtain rfl := Option.some.inj H
                            have hnb46 := NB153_148.out
                            have hnc46 := NB148_153.out
                            have hcz47_0 : wr.cell? ⟨gb153, 0, none⟩ = some (.slice A152_0 ((rd_T39 l0_0 x31_2).f0).length c152_0) := (blk_cell BK153.out 0).trans rfl
                            have hcz47_1 : wr.cell? ⟨gb153, 1, none⟩ = some (.int .i64 ((rd_T39 l0_0 x31_2).f1)) := (blk_cell BK153.out 1).trans rfl
                            have hcz47_2 : wr.cell? ⟨gb153, 2, none⟩ = some (.int .i64 ((rd_T39 l0_0 x31_2).f2)) := (blk_cell BK153.out 2).trans rfl
                            have hcz47_3 : wr.cell? ⟨gb153, 3, none⟩ = some (.int .i64 ((rd_T39 l0_0 x31_2).f3)) := (blk_cell BK153.out 3).trans rfl
                            have hfz47_0 := blk_frozen BK153.out 0
                            have hfz47_1 := blk_frozen BK153.out 1
                            have hfz47_2 := blk_frozen BK153.out 2
                            have hfz47_3 := blk_frozen BK153.out 3
                            have hcz48_0 : wr.cell? ⟨gb148, 0, none⟩ = some (.slice (some ad152) l0_0.length c0_0) := (blk_cell BK148.out 0).trans rfl
                            have hcz48_1 : wr.cell? ⟨gb148, 1, none⟩ = some (.slice A0_1 l0_1.length c0_1) := (blk_cell BK148.out 1).trans rfl
                            have hfz48_0 := blk_frozen BK148.out 0
                            have hfz48_1 := blk_frozen BK148.out 1
                            go_wp2_with (first | ((with_reducible refine gate_callee (f := 52) rfl ?_); refine goesL_ (some 68) rfl rfl Try.func52 (by kernel_rfl) rfl #[.int .i64 ((rd_T39 l0_0 x31_2).f1), .int .i64 1, .int .i64 (l0_1.length : Int)] rfl (by (try simp only [List.map_toArray, List.map_cons, List.map_nil]); first | done | rfl | (simp only [List.length_drop, List.length_take]; rfl)) ?_; (with_reducible refine (impl_in.calls ((rd_T39 l0_0 x31_2).f1) 1 (l0_1.length : Int) true _ A34.out).mono ?_); rintro e w' ⟨rfl, ⟨nd, rfl⟩⟩; refine ⟨_, rfl, ?_⟩) | (go_at_call 52; (with_reducible refine (impl_in.calls ((rd_T39 l0_0 x31_2).f2) 0 1000000000000 false _ A36.out).mono ?_); rintro e w' ⟨rfl, ⟨nd, rfl⟩⟩))
                            go_ret
                            exact ⟨by first | rfl | (simp [errW_none, errW_some] <;> rfl) | (simp [*, errW_none, errW_some] <;> rfl), by repeat (first | (with_reducible first | exact HB.out | apply below_alloc | apply pw_below_drewN | apply below_drew1 | refine below_set ?_ GE148.out | refine below_set ?_ GE153.out) | exact HB.out)⟩
                        · replace c35 := Bool.eq_false_iff.mpr c35
                          subst c35
                          have H1 : (some false) = some r := by rw [if_neg (show ¬ (false = true) by decide)] at H; exact H
                          clear H
                          have H := H1
                          clear H1
                          obtain rfl := Option.some.inj H
                          have hnb49 := NB153_148.out
                          have hnc49 := NB148_153.out
                          have hcz50_0 : wr.cell? ⟨gb153, 0, none⟩ = some (.slice A152_0 ((rd_T39 l0_0 x31_2).f0).length c152_0) := (blk_cell BK153.out 0).trans rfl
                          have hcz50_1 : wr.cell? ⟨gb153, 1, none⟩ = some (.int .i64 ((rd_T39 l0_0 x31_2).f1)) := (blk_cell BK153.out 1).trans rfl
                          have hcz50_2 : wr.cell? ⟨gb153, 2, none⟩ = some (.int .i64 ((rd_T39 l0_0 x31_2).f2)) := (blk_cell BK153.out 2).trans rfl
                          have hcz50_3 : wr.cell? ⟨gb153, 3, none⟩ = some (.int .i64 ((rd_T39 l0_0 x31_2).f3)) := (blk_cell BK153.out 3).trans rfl
                          have hfz50_0 := blk_frozen BK153.out 0
                          have hfz50_1 := blk_frozen BK153.out 1
                          have hfz50_2 := blk_frozen BK153.out 2
                          have hfz50_3 := blk_frozen BK153.out 3
                          have hcz51_0 : wr.cell? ⟨gb148, 0, none⟩ = some (.slice (some ad152) l0_0.length c0_0) := (blk_cell BK148.out 0).trans rfl
                          have hcz51_1 : wr.cell? ⟨gb148, 1, none⟩ = some (.slice A0_1 l0_1.length c0_1) := (blk_cell BK148.out 1).trans rfl
                          have hfz51_0 := blk_frozen BK148.out 0
                          have hfz51_1 := blk_frozen BK148.out 1
                          go_wp2_with (first | ((with_reducible refine gate_callee (f := 52) rfl ?_); refine goesL_ (some 68) rfl rfl Try.func52 (by kernel_rfl) rfl #[.int .i64 ((rd_T39 l0_0 x31_2).f1), .int .i64 1, .int .i64 (l0_1.length : Int)] rfl (by (try simp only [List.map_toArray, List.map_cons, List.map_nil]); first | done | rfl | (simp only [List.length_drop, List.length_take]; rfl)) ?_; (with_reducible refine (impl_in.calls ((rd_T39 l0_0 x31_2).f1) 1 (l0_1.length : Int) false _ A34.out).mono ?_); rintro e w' ⟨rfl, ⟨nd, rfl⟩⟩; refine ⟨_, rfl, ?_⟩))
                          go_ret
                          exact ⟨by first | rfl | (simp [errW_none, errW_some] <;> rfl) | (simp [*, errW_none, errW_some] <;> rfl), by repeat (first | (with_reducible first | exact HB.out | apply below_alloc | apply pw_below_drewN | apply below_drew1 | refine below_set ?_ GE148.out | refine below_set ?_ GE153.out) | exact HB.out)⟩
                · rw [if_neg c16] at H
                  exact absurd H (by simp)
              · rw [if_neg c15] at H
                exact absurd H (by simp)
            · rw [if_neg c14] at H
              have c14b0 : decide (x31_2 < (l0_0.length : Int)) = false := decide_eq_false c14
              clear c14
              obtain rfl := Option.some.inj H
              go_wp2
              go_ret
              exact ⟨by first | rfl | (simp [errW_none, errW_some] <;> rfl) | (simp [*, errW_none, errW_some] <;> rfl), by repeat (first | (with_reducible first | exact HB.out | apply below_alloc | apply pw_below_drewN | apply below_drew1 | refine below_set ?_ GE148.out) | exact HB.out)⟩


/-! ### slices_Clone_int64_int64: function 79 -/
def slices_Clone_int64_int64.f (l0 : List Int) : Option (List Int) := if l0.length < 17592186044416 then some l0 else none
set_option maxHeartbeats 8000000 in
set_option maxRecDepth 100000 in
theorem slices_Clone_int64_int64.calls (A0 : Option Addr) (c0 : Nat) (l0 : List Int) (r : List Int) (w : World) (hr0 : Kd.C (Kd.int .i64) w A0 l0.length l0) (hc0 : l0.length ≤ c0) (h : slices_Clone_int64_int64.f l0 = some r) :
    Calls Try.prog 79 #[.slice A0 l0.length c0] w fun e w' => ∃ v0_ : Value, e = .returned (v0_) ∧ Kd.R (Kd.int .i64) 2 w' w.heap.size (fun _ => True) v0_ r ∧ Below w.heap.size w w' := by
  unfold slices_Clone_int64_int64.f at h
  by_cases c4 : l0.length < 17592186044416
  · rw [if_pos c4] at h
    obtain rfl := Option.some.inj h
    clear h
    have LM := Aside0.mk c4
    clear c4
    have HR0 := Aside0.mk hr0
    have HC0 := Aside0.mk hc0
    clear hr0 hc0
    have HB := Aside0.mk (Below.refl w.heap.size w)
    have hq : ∀ (W : World) (a : Option Addr) (m c : Nat), (binOp .eql 25 (.slice a m c) (.slice none 0 0)).run Try.prog W = .ok (.bool a.isNone) W := fun W a m c => Lib.run_eql_slice_nil W 25 2 a m c 0 0 Try.underlying25
    cases A0 with
    | none =>
      have hl : l0 = [] := by
        rcases Nat.eq_zero_or_pos l0.length with h | h
        · exact List.eq_nil_of_length_eq_zero h
        · obtain ⟨ad, e, _⟩ := HR0.out.2.2 h
          cases e
      subst hl
      clear HR0 HC0 LM
      go_enter Try.func79, Try.ntmps79
      go_wp2
      go_ret
      exact ⟨_, rfl, Kd.R_nil _ _ _ _ _, by repeat (first | (with_reducible first | exact HB.out | apply below_alloc | apply pw_below_drewN | apply below_drew1) | exact HB.out)⟩
    | some a0 =>
      obtain ⟨y1, hy1⟩ : ∃ y_ : List Int, y_ = ([] : List Int) := ⟨_, rfl⟩
      obtain ⟨y2, hy2⟩ : ∃ y_ : List Int, y_ = y1 ++ l0 := ⟨_, rfl⟩
      have e2 : y2 = l0 := by rw [hy2, hy1]; rfl
      have LM2 : Aside0 (y1.length + l0.length < 17592186044416) := Aside0.mk (by rw [hy1]; simpa using LM.out)
      have Ny1 := Aside0.mk hy1
      have Ny2 := Aside0.mk hy2
      have Ne2 := Aside0.mk e2
      clear hy1 hy2 e2
      have hg : Calls Try.prog 79 #[.slice (some a0) l0.length c0] w (fun e w' => ∃ v0_ : Value, e = .returned (v0_) ∧ Kd.R (Kd.int .i64) 2 w' w.heap.size (fun _ => True) v0_ y2 ∧ Below w.heap.size w w') := by
        go_enter Try.func79, Try.ntmps79
        go_wp2_with (first | ((with_reducible refine gate_dst (N := 5) rfl ?_); refine Kd.R_lit (Kd.int .i64) _ 2 ?hg (N := 5) ?hd (xs := ([] : List Int)) (inner := []) (ok := fun _ => True) (okp := fun _ => True) ?hr ?hp (fun _ hk => hk) trivial (Below.refl _ _) (Nat.le_refl _) (by simp) ?_; (case hd => rfl); (case hg => rfl); (case hr => first | (go_simp; done) | (go_simp; rfl)); (case hp => exact (Reps.none _ _)); intro v1 w8 ho9 hb hg_ hnew_; clear hg_ hnew_; rw [← Ny1.out] at ho9; have n0_ := Aside0.mk (Kd.R_lower ho9 (below_size (by repeat (first | (with_reducible first | exact HB.out | apply below_alloc | apply pw_below_drewN | apply below_drew1) | exact HB.out)))); have n1_ := Aside0.mk (below_step (by repeat (first | (with_reducible first | exact HB.out | apply below_alloc | apply pw_below_drewN | apply below_drew1) | exact HB.out)) hb); clear HB; have HO1 := n0_; have HB := n1_; clear n0_ n1_; clear hb ho9) | ((with_reducible refine gate_builtin (b := .append) (xs := #[.tmp 5, .tmp 6]) rfl ?_); at_builtin; refine Kd.R_append_rows (Kd.int .i64) (w0 := w) w.heap.size rfl (.tmp 5) (.tmp 6) 25 2 (.int .i64 0) 8 rfl Try.underlying25 info2 rfl (by decide) (by omega) v1 y1 l0 _ _ _ (fun _ => True) (fun _ => False) rfl rfl ?aO ?aR (fun _ _ h => h) (fun _ h => h.elim) ?aF ?aB ?aS ?aL ?_; (case aR => repeat (first | exact (Kd.C_below HR0.out HB.out) | (with_reducible refine Kd.C_alloc ?_ _) | (with_reducible refine Kd.C_drewN ?_ _) | (with_reducible refine Kd.C_drew ?_))); (case aB => exact (by repeat (first | (with_reducible first | exact HB.out | apply below_alloc | apply pw_below_drewN | apply below_drew1) | exact HB.out))); (case aF => exact (fun _ _ => trivial)); (case aO => exact (by (with_reducible repeat (first | apply Kd.R_alloc | apply Kd.R_drewN | apply Kd.R_drew)); exact HO1.out)); (case aS => exact (below_size (by repeat (first | (with_reducible first | exact HB.out | apply below_alloc | apply pw_below_drewN | apply below_drew1) | exact HB.out)))); (case aL => have := LM2.out; omega); intro v2 w10 ho hb hg hat; rw [← Ny2.out] at ho; have n0_ := Aside0.mk (hb); have n1_ := Aside0.mk (ho); clear HB; clear HO1; have HB := n0_; have HO2 := n1_; clear n0_ n1_; clear ho hb hg hat; obtain ⟨Ao11, co11, eo11⟩ := Kd.R_slice HO2.out; subst eo11))
        go_ret
        exact ⟨_, rfl, by (with_reducible repeat (first | apply Kd.R_alloc | apply Kd.R_drewN | apply Kd.R_drew)); exact HO2.out, by repeat (first | (with_reducible first | exact HB.out | apply below_alloc | apply pw_below_drewN | apply below_drew1) | exact HB.out)⟩
      exact hg.mono fun e w' ⟨v, h1, h2, h3⟩ => ⟨v, h1, by rw [← Ne2.out]; exact h2, h3⟩
  · rw [if_neg c4] at h
    exact absurd h (by simp)

/-! ### impl_copySuite: function 47 -/
def impl_copySuite.l0 : Nat → List (S39) → Int → Int → List (S39) → List Int → Option ((List (S39)) × List Int)
  | 0, _, _, _, _, _ => none
  | k + 1, x11, x12, x13, x166000, x166001 => if x13 < x12 then (if 0 ≤ x13 then (if x13 < (x11.length : Int) then ((slices_Clone_int64_int64.f ((rd_T39 x11 x13).f0)).bind fun t168 => (if x166000.length < 2932031007402 then (impl_copySuite.l0 k x11 x12 (wrap64 (x13 + 1)) (x166000 ++ [(⟨t168, (rd_T39 x11 x13).f1, (rd_T39 x11 x13).f2, (rd_T39 x11 x13).f3⟩ : S39)]) x166001) else (none))) else (none)) else (none)) else (some (x166000, x166001))
def impl_copySuite.f (k : Nat) (l0_0 : List (S39)) (l0_1 : List Int) : Option ((List (S39)) × List Int) := (slices_Clone_int64_int64.f l0_1).bind fun t162 => (impl_copySuite.l0 k l0_0 (l0_0.length : Int) 0 ([] : List (S39)) t162)
theorem impl_copySuite.mono_l : ∀ k, (∀ y0 y1 y2 y3 y4, LeO (impl_copySuite.l0 k y0 y1 y2 y3 y4) (impl_copySuite.l0 (k + 1) y0 y1 y2 y3 y4))
  | 0 => fun _ _ _ _ _ r h => by simp [impl_copySuite.l0] at h
  | k + 1 => by
    have ih0 := impl_copySuite.mono_l k
    · intro y0 y1 y2 y3 y4
      unfold impl_copySuite.l0
      repeat' first
      | (with_reducible exact ih0 _ _ _ _ _)
      | (with_reducible exact LeO.refl _)
      | (with_reducible exact LeO.none _)
      | (with_reducible refine LeO.ite ?_ ?_)
      | (with_reducible refine LeO.bind ?_ (fun _ => ?_))
      | exact ih0 _ _ _ _ _
      | exact LeO.none _
      | refine LeO.ite ?_ ?_
      | refine LeO.bind ?_ (fun _ => ?_)
theorem impl_copySuite.mono : ∀ a0 a1 k, LeO (impl_copySuite.f k a0 a1) (impl_copySuite.f (k + 1) a0 a1) := by
  intro a0 a1 k
  have ih0 := impl_copySuite.mono_l k
  unfold impl_copySuite.f
  repeat' first
      | (with_reducible exact ih0 _ _ _ _ _)
      | (with_reducible exact LeO.refl _)
      | (with_reducible exact LeO.none _)
      | (with_reducible refine LeO.ite ?_ ?_)
      | (with_reducible refine LeO.bind ?_ (fun _ => ?_))
      | exact ih0 _ _ _ _ _
      | exact LeO.none _
      | refine LeO.ite ?_ ?_
      | refine LeO.bind ?_ (fun _ => ?_)
set_option maxHeartbeats 8000000 in
set_option maxRecDepth 100000 in
theorem impl_copySuite.calls (k : Nat) (A0_0 : Option Addr) (c0_0 : Nat) (l0_0 : List (S39)) (A0_1 : Option Addr) (c0_1 : Nat) (l0_1 : List Int) (r1 : List (S39)) (r2 : List Int) (w : World) (hr0_0 : Kd.C k39 w A0_0 l0_0.length l0_0) (hc0_0 : l0_0.length ≤ c0_0) (hr0_1 : Kd.C (Kd.int .i64) w A0_1 l0_1.length l0_1) (hc0_1 : l0_1.length ≤ c0_1) (h : impl_copySuite.f k l0_0 l0_1 = some (r1, r2)) :
    Calls Try.prog 47 #[.agg #[.slice A0_0 l0_0.length c0_0, .slice A0_1 l0_1.length c0_1]] w fun e w' => ∃ v0_ v1_ : Value, e = .returned (.agg #[v0_, v1_]) ∧ Kd.S k39 39 w' w.heap.size (fun k_ => some k_ ≠ (v1_ : Value).ownBlock) v0_ r1 ∧ Kd.R (Kd.int .i64) 2 w' w.heap.size (fun _ => True) v1_ r2 ∧ Below w.heap.size w w' := by
  have hu27 := Try.underlying27
  have hu39 := Try.underlying39
  have HR0_0 := Aside0.mk hr0_0
  have HC0_0 := Aside0.mk hc0_0
  clear hr0_0 hc0_0
  have HR0_1 := Aside0.mk hr0_1
  have HC0_1 := Aside0.mk hc0_1
  clear hr0_1 hc0_1
  have HB := Aside0.mk (Below.refl w.heap.size w)
  have H : ((slices_Clone_int64_int64.f l0_1).bind fun t162 => (impl_copySuite.l0 k l0_0 (l0_0.length : Int) 0 ([] : List (S39)) t162)) = some (r1, r2) := h
  clear h
  replace H := Option.bind_eq_some_iff.mp H
  obtain ⟨t162, A20, H⟩ := H
  replace H : (impl_copySuite.l0 k l0_0 (l0_0.length : Int) 0 ([] : List (S39)) t162) = some (r1, r2) := H
  have A2 := Aside0.mk A20
  clear A20
  have H' := Aside0.mk H
  clear H
  go_enter Try.func47, Try.ntmps47
  go_wp2_with (first | ((with_reducible refine gate_dst (N := 1) rfl ?_); refine box_event ?hg (N := 1) ?hd (cs := #[.slice A0_0 l0_0.length c0_0, .slice A0_1 l0_1.length c0_1]) (t := 27) ?hr ?_; (case hd => rfl); (case hg => rfl); (case hr => first | (go_simp; done) | (go_simp; rfl)); intro gb160 hg w3 hbox hb; have n0_ := Aside0.mk (below_step (by repeat (first | (with_reducible first | exact HB.out | apply below_alloc | apply pw_below_drewN | apply below_drew1) | exact HB.out)) hb); have n1_ := Aside0.mk (hbox); have n2_ := Aside0.mk ((by rw [hg]; exact (below_size (by repeat (first | (with_reducible first | exact HB.out | apply below_alloc | apply pw_below_drewN | apply below_drew1) | exact HB.out))) : w.heap.size ≤ gb160)); have n3_ := Aside0.mk ((by rw [hg]; exact (below_size (by repeat (first | (with_reducible first | exact HB.out | apply below_alloc | apply pw_below_drewN | apply below_drew1) | exact HB.out))) : w.heap.size ≤ gb160)); clear HB; have HB := n0_; have BK160 := n1_; have GW160 := n2_; have GE160 := n3_; clear n0_ n1_ n2_ n3_; clear hb hbox hg) | ((with_reducible refine gate_dst (N := 2) rfl ?_); refine box_event ?hg (N := 2) ?hd (cs := #[.slice none 0 0, .slice none 0 0]) (t := 27) ?hr ?_; (case hd => rfl); (case hg => rfl); (case hr => first | (go_simp; done) | (go_simp; rfl)); intro gb161 hg w4 hbox hb; have n0_ := Aside0.mk (blk_below (g := gb160) (o := .cells #[.slice A0_0 l0_0.length c0_0, .slice A0_1 l0_1.length c0_1] 27 (0, 0)) (by (with_reducible repeat (first | refine blk_drewN ?_ _ | refine blk_drew ?_ | refine blk_alloc ?_ _)); exact BK160.out) hb); have n1_ := Aside0.mk (below_step (by repeat (first | (with_reducible first | exact HB.out | apply below_alloc | apply pw_below_drewN | apply below_drew1 | refine below_set ?_ GE160.out) | exact HB.out)) hb); have n2_ := Aside0.mk (hbox); have n3_ := Aside0.mk ((by rw [hg]; exact (below_size (by repeat (first | (with_reducible first | exact HB.out | apply below_alloc | apply pw_below_drewN | apply below_drew1 | refine below_set ?_ GE160.out) | exact HB.out))) : w.heap.size ≤ gb161)); have n4_ := Aside0.mk ((by rw [hg]; exact (below_size (by repeat (first | (with_reducible first | exact HB.out | apply below_alloc | apply pw_below_drewN | apply below_drew1 | refine below_set ?_ GE160.out) | exact HB.out))) : w.heap.size ≤ gb161)); have n5_ := Aside0.mk ((by rw [hg]; exact Nat.ne_of_lt (blk_lt (g := gb160) (o := .cells #[.slice A0_0 l0_0.length c0_0, .slice A0_1 l0_1.length c0_1] 27 (0, 0)) (by (with_reducible repeat (first | refine blk_drewN ?_ _ | refine blk_drew ?_ | refine blk_alloc ?_ _)); exact BK160.out)) : gb160 ≠ gb161)); have n6_ := Aside0.mk ((by rw [hg]; exact Nat.ne_of_gt (blk_lt (g := gb160) (o := .cells #[.slice A0_0 l0_0.length c0_0, .slice A0_1 l0_1.length c0_1] 27 (0, 0)) (by (with_reducible repeat (first | refine blk_drewN ?_ _ | refine blk_drew ?_ | refine blk_alloc ?_ _)); exact BK160.out)) : gb161 ≠ gb160)); clear BK160; clear HB; have BK160 := n0_; have HB := n1_; have BK161 := n2_; have GW161 := n3_; have GE161 := n4_; have NB160_161 := n5_; have NB161_160 := n6_; clear n0_ n1_ n2_ n3_ n4_ n5_ n6_; clear hb hbox hg; have hnb5 := NB160_161.out; have hnc5 := NB161_160.out; have hcz6_0 : w4.cell? ⟨gb160, 0, none⟩ = some (.slice A0_0 l0_0.length c0_0) := (blk_cell BK160.out 0).trans rfl; have hcz6_1 : w4.cell? ⟨gb160, 1, none⟩ = some (.slice A0_1 l0_1.length c0_1) := (blk_cell BK160.out 1).trans rfl; have hfz6_0 := blk_frozen BK160.out 0; have hfz6_1 := blk_frozen BK160.out 1) | ((with_reducible refine gate_callee (f := 79) rfl ?_); refine goesL_ (some 8) rfl rfl Try.func79 (by kernel_rfl) rfl #[.slice A0_1 l0_1.length c0_1] rfl (by (try simp only [List.map_toArray, List.map_cons, List.map_nil]); first | done | rfl | (simp only [List.length_drop, List.length_take]; rfl)) ?_; (with_reducible refine (slices_Clone_int64_int64.calls _ _ l0_1 t162 _ ?side1 ?side2 A2.out).mono ?_); (case side1 => repeat (first | exact (Kd.C_below HR0_1.out HB.out) | (with_reducible refine Kd.C_alloc ?_ _) | (with_reducible refine Kd.C_drewN ?_ _) | (with_reducible refine Kd.C_drew ?_))); (case side2 => exact HC0_1.out); rintro e w7 ⟨v163, rfl, ho0, hb⟩; refine ⟨_, rfl, ?_⟩; have n0_ := Aside0.mk (Kd.R_lower ho0 (below_size (by repeat (first | (with_reducible first | exact HB.out | apply below_alloc | apply pw_below_drewN | apply below_drew1 | refine below_set ?_ GE160.out | refine below_set ?_ GE161.out) | exact HB.out)))); have n1_ := Aside0.mk (blk_below (g := gb160) (o := .cells #[.slice A0_0 l0_0.length c0_0, .slice A0_1 l0_1.length c0_1] 27 (0, 0)) (by (with_reducible repeat (first | refine blk_drewN ?_ _ | refine blk_drew ?_ | refine blk_alloc ?_ _)); exact BK160.out) hb); have n2_ := Aside0.mk (blk_below (g := gb161) (o := .cells #[.slice none 0 0, .slice none 0 0] 27 (0, 0)) (by (with_reducible repeat (first | refine blk_drewN ?_ _ | refine blk_drew ?_ | refine blk_alloc ?_ _)); exact BK161.out) hb); have n3_ := Aside0.mk (below_step (by repeat (first | (with_reducible first | exact HB.out | apply below_alloc | apply pw_below_drewN | apply below_drew1 | refine below_set ?_ GE160.out | refine below_set ?_ GE161.out) | exact HB.out)) hb); clear BK160; clear BK161; clear HB; have HO164 := n0_; have BK160 := n1_; have BK161 := n2_; have HB := n3_; clear n0_ n1_ n2_ n3_; (try clear hb); (try clear hb2); (try clear hk); (try clear hi); (try clear ho0); obtain ⟨Ao8, co8, eo8⟩ := Kd.R_slice HO164.out; subst eo8) | ((with_reducible refine gate_dst (N := 3) rfl ?_); refine box_event ?hg (N := 3) ?hd (cs := #[.slice none 0 0, .slice none 0 0]) (t := 27) ?hr ?_; (case hd => rfl); (case hg => rfl); (case hr => first | (go_simp; done) | (go_simp; rfl)); intro gb165 hg w9 hbox hb; have n0_ := Aside0.mk (Kd.R_below (by (with_reducible repeat (first | apply Kd.R_alloc | apply Kd.R_drewN | apply Kd.R_drew)); exact HO164.out) hb); have n1_ := Aside0.mk (blk_below (g := gb160) (o := .cells #[.slice A0_0 l0_0.length c0_0, .slice A0_1 l0_1.length c0_1] 27 (0, 0)) (by (with_reducible repeat (first | refine blk_drewN ?_ _ | refine blk_drew ?_ | refine blk_alloc ?_ _)); exact BK160.out) hb); have n2_ := Aside0.mk (blk_below (g := gb161) (o := .cells #[.slice none 0 0, .slice none 0 0] 27 (0, 0)) (by (with_reducible repeat (first | refine blk_drewN ?_ _ | refine blk_drew ?_ | refine blk_alloc ?_ _)); exact BK161.out) hb); have n3_ := Aside0.mk (below_step (by repeat (first | (with_reducible first | exact HB.out | apply below_alloc | apply pw_below_drewN | apply below_drew1 | refine below_set ?_ GE160.out | refine below_set ?_ GE161.out) | exact HB.out)) hb); have n4_ := Aside0.mk (hbox); have n5_ := Aside0.mk ((by rw [hg]; exact (below_size (by repeat (first | (with_reducible first | exact HB.out | apply below_alloc | apply pw_below_drewN | apply below_drew1 | refine below_set ?_ GE160.out | refine below_set ?_ GE161.out) | exact HB.out))) : w.heap.size ≤ gb165)); have n6_ := Aside0.mk ((by rw [hg]; exact (below_size (by repeat (first | (with_reducible first | exact HB.out | apply below_alloc | apply pw_below_drewN | apply below_drew1 | refine below_set ?_ GE160.out | refine below_set ?_ GE161.out) | exact HB.out))) : w.heap.size ≤ gb165)); have n7_ := Aside0.mk ((by rw [hg]; exact Nat.ne_of_lt (blk_lt (g := gb160) (o := .cells #[.slice A0_0 l0_0.length c0_0, .slice A0_1 l0_1.length c0_1] 27 (0, 0)) (by (with_reducible repeat (first | refine blk_drewN ?_ _ | refine blk_drew ?_ | refine blk_alloc ?_ _)); exact BK160.out)) : gb160 ≠ gb165)); have n8_ := Aside0.mk ((by rw [hg]; exact Nat.ne_of_gt (blk_lt (g := gb160) (o := .cells #[.slice A0_0 l0_0.length c0_0, .slice A0_1 l0_1.length c0_1] 27 (0, 0)) (by (with_reducible repeat (first | refine blk_drewN ?_ _ | refine blk_drew ?_ | refine blk_alloc ?_ _)); exact BK160.out)) : gb165 ≠ gb160)); have n9_ := Aside0.mk ((by rw [hg]; exact Nat.ne_of_lt (blk_lt (g := gb161) (o := .cells #[.slice none 0 0, .slice none 0 0] 27 (0, 0)) (by (with_reducible repeat (first | refine blk_drewN ?_ _ | refine blk_drew ?_ | refine blk_alloc ?_ _)); exact BK161.out)) : gb161 ≠ gb165)); have n10_ := Aside0.mk ((by rw [hg]; exact Nat.ne_of_gt (blk_lt (g := gb161) (o := .cells #[.slice none 0 0, .slice none 0 0] 27 (0, 0)) (by (with_reducible repeat (first | refine blk_drewN ?_ _ | refine blk_drew ?_ | refine blk_alloc ?_ _)); exact BK161.out)) : gb165 ≠ gb161)); clear HO164; clear BK160; clear BK161; clear HB; have HO164 := n0_; have BK160 := n1_; have BK161 := n2_; have HB := n3_; have BK165 := n4_; have GW165 := n5_; have GE165 := n6_; have NB160_165 := n7_; have NB165_160 := n8_; have NB161_165 := n9_; have NB165_161 := n10_; clear n0_ n1_ n2_ n3_ n4_ n5_ n6_ n7_ n8_ n9_ n10_; clear hb hbox hg; have hnb10 := NB165_160.out; have hnc10 := NB160_165.out; have hnb11 := NB165_161.out; have hnc11 := NB161_165.out; have hcz12_0 : w9.cell? ⟨gb165, 0, none⟩ = some (.slice none 0 0) := (blk_cell BK165.out 0).trans rfl; have hcz12_1 : w9.cell? ⟨gb165, 1, none⟩ = some (.slice none 0 0) := (blk_cell BK165.out 1).trans rfl; have hfz12_0 := blk_frozen BK165.out 0; have hfz12_1 := blk_frozen BK165.out 1; have hcz13_0 : w9.cell? ⟨gb160, 0, none⟩ = some (.slice A0_0 l0_0.length c0_0) := (blk_cell BK160.out 0).trans rfl; have hcz13_1 : w9.cell? ⟨gb160, 1, none⟩ = some (.slice A0_1 l0_1.length c0_1) := (blk_cell BK160.out 1).trans rfl; have hfz13_0 := blk_frozen BK160.out 0; have hfz13_1 := blk_frozen BK160.out 1))
  go_loopg [13] k (fun kq v13 w' => ∃ (x13_1 : Int) (x166000_1 : List (S39)) (u166000 : Value), v13 = .int .i64 x13_1 ∧ Aside0 (impl_copySuite.l0 kq l0_0 (l0_0.length : Int) x13_1 x166000_1 t162 = some (r1, r2)) ∧ Aside0 (kq ≤ k) ∧ Aside0 (Kd.S k39 39 w' w.heap.size (fun k_ => some k_ ≠ ((.slice Ao8 t162.length co8) : Value).ownBlock) u166000 x166000_1) ∧ Aside0 (Kd.R (Kd.int .i64) 2 w' w.heap.size (fun _ => True) (.slice Ao8 t162.length co8) t162) ∧ Aside0 (w'.heap[gb160]? = some (.cells #[(.slice A0_0 l0_0.length c0_0), (.slice A0_1 l0_1.length c0_1)] 27 (0, 0))) ∧ Aside0 (w'.heap[gb161]? = some (.cells #[(.slice none 0 0), (.slice none 0 0)] 27 (0, 0))) ∧ Aside0 (w'.heap[gb165]? = some (.cells #[u166000, (.slice Ao8 t162.length co8)] 27 (0, 0))) ∧ Aside0 (Below w.heap.size w w'))
  case atStart => exact ⟨(0), (([] : List (S39))), (.slice none 0 0), (by first | rfl | (simp; done) | (simp [*]; done)), H', ⟨Nat.le_refl _⟩, ⟨by first | exact Kd.S_nil _ _ _ _ _ | exact Kd.N_nil _ _ _ _ _ | exact Kd.V_nil _ _ _ _ _ | exact Kd.Q_nil _ _ _ _ _ | exact Kd.R_nil _ _ _ _ _⟩, ⟨by (with_reducible repeat (first | apply Kd.R_alloc | apply Kd.R_drewN | apply Kd.R_drew)); exact Kd.R_mono (Kd.R_far (p := ⟨gb165, 1, none⟩) (Kd.R_far (p := ⟨gb165, 0, none⟩) (Kd.R_types HO164.out BK165.out (by decide)) (fun _ hk => hk.2) (.slice none 0 0)) (fun _ hk => hk.2) (.slice Ao8 t162.length co8)) (fun _ hk => trivial)⟩, ⟨by (with_reducible repeat (first | refine blk_drewN ?_ _ | refine blk_drew ?_ | refine blk_alloc ?_ _)); refine blk_far ?_ NB160_165.out _; (with_reducible repeat (first | refine blk_drewN ?_ _ | refine blk_drew ?_ | refine blk_alloc ?_ _)); refine blk_far ?_ NB160_165.out _; (with_reducible repeat (first | refine blk_drewN ?_ _ | refine blk_drew ?_ | refine blk_alloc ?_ _)); exact BK160.out⟩, ⟨by (with_reducible repeat (first | refine blk_drewN ?_ _ | refine blk_drew ?_ | refine blk_alloc ?_ _)); refine blk_far ?_ NB161_165.out _; (with_reducible repeat (first | refine blk_drewN ?_ _ | refine blk_drew ?_ | refine blk_alloc ?_ _)); refine blk_far ?_ NB161_165.out _; (with_reducible repeat (first | refine blk_drewN ?_ _ | refine blk_drew ?_ | refine blk_alloc ?_ _)); exact BK161.out⟩, ⟨by (with_reducible repeat (first | refine blk_drewN ?_ _ | refine blk_drew ?_ | refine blk_alloc ?_ _)); refine blk_put (cs := #[.slice none 0 0, .slice none 0 0]) ?_ 1 _ rfl; (with_reducible repeat (first | refine blk_drewN ?_ _ | refine blk_drew ?_ | refine blk_alloc ?_ _)); refine blk_put (cs := #[.slice none 0 0, .slice none 0 0]) ?_ 0 _ rfl; (with_reducible repeat (first | refine blk_drewN ?_ _ | refine blk_drew ?_ | refine blk_alloc ?_ _)); exact BK165.out⟩, ⟨by repeat (first | (with_reducible first | exact HB.out | apply below_alloc | apply pw_below_drewN | apply below_drew1 | refine below_set ?_ GE160.out | refine below_set ?_ GE161.out | refine below_set ?_ GE165.out) | exact HB.out)⟩⟩
  case round =>
    clear H'
    try clear c1
    try clear p2
    try clear c4
    try clear c5
    try clear c7
    try clear c10
    try clear c11
    try clear hcz12_0
    try clear hcz12_1
    try clear hcz13_0
    try clear hcz13_1
    try clear hcz6_0
    try clear hcz6_1
    try clear hfz12_0
    try clear hfz12_1
    try clear hfz13_0
    try clear hfz13_1
    try clear hfz6_0
    try clear hfz6_1
    obtain ⟨x13_1, x166000_1, u166000, rfl, HA, HK1, HO_166000, HO_166001, BK160, BK161, BK165, HB⟩ := hrel
    cases gk with
    | zero => exact absurd HA.out (by simp [impl_copySuite.l0])
    | succ k1 =>
      have H := HA.out
      clear HA
      simp only [impl_copySuite.l0] at H
      by_cases c14 : x13_1 < (l0_0.length : Int)
      · rw [if_pos c14] at H
        have c14b0 : decide (x13_1 < (l0_0.length : Int)) = true := decide_eq_true c14
        clear c14
        by_cases c15 : 0 ≤ x13_1
        · rw [if_pos c15] at H
          have c15b0 : decide (0 ≤ x13_1) = true := decide_eq_true c15
          clear c15
          by_cases c16 : x13_1 < (l0_0.length : Int)
          · rw [if_pos c16] at H
            have c16b0 : decide (x13_1 < (l0_0.length : Int)) = true := decide_eq_true c16
            clear c16
            replace H := Option.bind_eq_some_iff.mp H
            obtain ⟨t168, A170, H⟩ := H
            replace H : (if x166000_1.length < 2932031007402 then (impl_copySuite.l0 k1 l0_0 (l0_0.length : Int) (wrap64 (x13_1 + 1)) (x166000_1 ++ [(⟨t168, (rd_T39 l0_0 x13_1).f1, (rd_T39 l0_0 x13_1).f2, (rd_T39 l0_0 x13_1).f3⟩ : S39)]) t162) else (none)) = some (r1, r2) := H
            have A17 := Aside0.mk A170
            clear A170
            by_cases c18 : x166000_1.length < 2932031007402
            · rw [if_pos c18] at H
              have LMc18 := Aside0.mk c18
              clear c18
              obtain ⟨y171, hy171⟩ : ∃ y_ : List (S39), y_ = (x166000_1 ++ [(⟨t168, (rd_T39 l0_0 x13_1).f1, (rd_T39 l0_0 x13_1).f2, (rd_T39 l0_0 x13_1).f3⟩ : S39)]) := ⟨_, rfl⟩
              replace H : (impl_copySuite.l0 k1 l0_0 (l0_0.length : Int) (wrap64 (x13_1 + 1)) y171 t162) = some (r1, r2) := by first | (rw [hy171]; with_reducible exact H) | (have H2_ := (Option.bind_some _ _).symm.trans H; rw [hy171]; with_reducible exact H2_) | (have H2_ := (Option.bind_some _ _).symm.trans H; with_reducible exact H2_) | with_reducible exact H | (rw [hy171]; exact H) | exact H
              have Ny171 := Aside0.mk hy171
              clear hy171
              have H' := Aside0.mk H
              clear H
              have p166 : 0 ≤ (x13_1 : Int) := of_decide_eq_true (by first | (with_reducible assumption) | assumption)
              have q166 : x13_1 < (l0_0.length : Int) := of_decide_eq_true (by first | (with_reducible assumption) | assumption)
              obtain ⟨ad166, A166_0, c166_0, e166, hx166_0, hx166_1, hx166_2, hx166_3, hl166_0, hi166_0⟩ := at_T39 HR0_0.out x13_1 p166 q166
              cases e166
              replace hx166_0 := (HB.out.cell (World.block_lt_of_cell? w _ hx166_0)).trans hx166_0
              replace hx166_1 := (HB.out.cell (World.block_lt_of_cell? w _ hx166_1)).trans hx166_1
              replace hx166_2 := (HB.out.cell (World.block_lt_of_cell? w _ hx166_2)).trans hx166_2
              replace hx166_3 := (HB.out.cell (World.block_lt_of_cell? w _ hx166_3)).trans hx166_3
              have HR166_0 := Aside0.mk hi166_0
              have HC166_0 := Aside0.mk hl166_0
              clear hi166_0 hl166_0
              replace p166 := eq_true p166
              replace q166 := eq_true q166
              go_wp2_with (first | ((with_reducible refine gate_dst (N := 5) rfl ?_); refine box_event ?hg (N := 5) ?hd (cs := #[.slice none 0 0, .int .i64 0, .int .i64 0, .int .i64 0]) (t := 39) ?hr ?_; (case hd => rfl); (case hg => rfl); (case hr => first | (go_simp; done) | (go_simp; rfl)); intro gb167 hg w19 hbox hb; have n0_ := Aside0.mk (Kd.S_below (Kd.S_elderB (by (with_reducible repeat (first | apply Kd.S_alloc | apply Kd.S_drewN | apply Kd.S_drew)); exact HO_166000.out) gb167 (Nat.le_of_eq hg.symm)) hb); have n1_ := Aside0.mk (Kd.R_below (by (with_reducible repeat (first | apply Kd.R_alloc | apply Kd.R_drewN | apply Kd.R_drew)); exact HO_166001.out) hb); have n2_ := Aside0.mk (blk_below (g := gb160) (o := .cells #[.slice (some ad166) l0_0.length c0_0, .slice A0_1 l0_1.length c0_1] 27 (0, 0)) (by (with_reducible repeat (first | refine blk_drewN ?_ _ | refine blk_drew ?_ | refine blk_alloc ?_ _)); exact BK160.out) hb); have n3_ := Aside0.mk (blk_below (g := gb161) (o := .cells #[.slice none 0 0, .slice none 0 0] 27 (0, 0)) (by (with_reducible repeat (first | refine blk_drewN ?_ _ | refine blk_drew ?_ | refine blk_alloc ?_ _)); exact BK161.out) hb); have n4_ := Aside0.mk (blk_below (g := gb165) (o := .cells #[u166000, .slice Ao8 t162.length co8] 27 (0, 0)) (by (with_reducible repeat (first | refine blk_drewN ?_ _ | refine blk_drew ?_ | refine blk_alloc ?_ _)); exact BK165.out) hb); have n5_ := Aside0.mk (below_step (by repeat (first | (with_reducible first | exact HB.out | apply below_alloc | apply pw_below_drewN | apply below_drew1 | refine below_set ?_ GE160.out | refine below_set ?_ GE161.out | refine below_set ?_ GE165.out) | exact HB.out)) hb); have n6_ := Aside0.mk (hbox); have n7_ := Aside0.mk ((by rw [hg]; exact (below_size (by repeat (first | (with_reducible first | exact HB.out | apply below_alloc | apply pw_below_drewN | apply below_drew1 | refine below_set ?_ GE160.out | refine below_set ?_ GE161.out | refine below_set ?_ GE165.out) | exact HB.out))) : w.heap.size ≤ gb167)); have n8_ := Aside0.mk ((by rw [hg]; exact (below_size (by repeat (first | (with_reducible first | exact HB.out | apply below_alloc | apply pw_below_drewN | apply below_drew1 | refine below_set ?_ GE160.out | refine below_set ?_ GE161.out | refine below_set ?_ GE165.out) | exact HB.out))) : w.heap.size ≤ gb167)); have n9_ := Aside0.mk ((by rw [hg]; exact Nat.ne_of_lt (blk_lt (g := gb160) (o := .cells #[.slice (some ad166) l0_0.length c0_0, .slice A0_1 l0_1.length c0_1] 27 (0, 0)) (by (with_reducible repeat (first | refine blk_drewN ?_ _ | refine blk_drew ?_ | refine blk_alloc ?_ _)); exact BK160.out)) : gb160 ≠ gb167)); have n10_ := Aside0.mk ((by rw [hg]; exact Nat.ne_of_gt (blk_lt (g := gb160) (o := .cells #[.slice (some ad166) l0_0.length c0_0, .slice A0_1 l0_1.length c0_1] 27 (0, 0)) (by (with_reducible repeat (first | refine blk_drewN ?_ _ | refine blk_drew ?_ | refine blk_alloc ?_ _)); exact BK160.out)) : gb167 ≠ gb160)); have n11_ := Aside0.mk ((by rw [hg]; exact Nat.ne_of_lt (blk_lt (g := gb161) (o := .cells #[.slice none 0 0, .slice none 0 0] 27 (0, 0)) (by (with_reducible repeat (first | refine blk_drewN ?_ _ | refine blk_drew ?_ | refine blk_alloc ?_ _)); exact BK161.out)) : gb161 ≠ gb167)); have n12_ := Aside0.mk ((by rw [hg]; exact Nat.ne_of_gt (blk_lt (g := gb161) (o := .cells #[.slice none 0 0, .slice none 0 0] 27 (0, 0)) (by (with_reducible repeat (first | refine blk_drewN ?_ _ | refine blk_drew ?_ | refine blk_alloc ?_ _)); exact BK161.out)) : gb167 ≠ gb161)); have n13_ := Aside0.mk ((by rw [hg]; exact Nat.ne_of_lt (blk_lt (g := gb165) (o := .cells #[u166000, .slice Ao8 t162.length co8] 27 (0, 0)) (by (with_reducible repeat (first | refine blk_drewN ?_ _ | refine blk_drew ?_ | refine blk_alloc ?_ _)); exact BK165.out)) : gb165 ≠ gb167)); have n14_ := Aside0.mk ((by rw [hg]; exact Nat.ne_of_gt (blk_lt (g := gb165) (o := .cells #[u166000, .slice Ao8 t162.length co8] 27 (0, 0)) (by (with_reducible repeat (first | refine blk_drewN ?_ _ | refine blk_drew ?_ | refine blk_alloc ?_ _)); exact BK165.out)) : gb167 ≠ gb165)); clear HO_166000; clear HO_166001; clear BK160; clear BK161; clear BK165; clear HB; have HO_166000 := n0_; have HO_166001 := n1_; have BK160 := n2_; have BK161 := n3_; have BK165 := n4_; have HB := n5_; have BK167 := n6_; have GW167 := n7_; have GE167 := n8_; have NB160_167 := n9_; have NB167_160 := n10_; have NB161_167 := n11_; have NB167_161 := n12_; have NB165_167 := n13_; have NB167_165 := n14_; clear n0_ n1_ n2_ n3_ n4_ n5_ n6_ n7_ n8_ n9_ n10_ n11_ n12_ n13_ n14_; clear hb hbox hg; have hnb20 := NB167_160.out; have hnc20 := NB160_167.out; have hnb21 := NB167_161.out; have hnc21 := NB161_167.out; have hnb22 := NB167_165.out; have hnc22 := NB165_167.out; have hcz23_0 : w19.cell? ⟨gb167, 0, none⟩ = some (.slice none 0 0) := (blk_cell BK167.out 0).trans rfl; have hcz23_1 : w19.cell? ⟨gb167, 1, none⟩ = some (.int .i64 0) := (blk_cell BK167.out 1).trans rfl; have hcz23_2 : w19.cell? ⟨gb167, 2, none⟩ = some (.int .i64 0) := (blk_cell BK167.out 2).trans rfl; have hcz23_3 : w19.cell? ⟨gb167, 3, none⟩ = some (.int .i64 0) := (blk_cell BK167.out 3).trans rfl; have hfz23_0 := blk_frozen BK167.out 0; have hfz23_1 := blk_frozen BK167.out 1; have hfz23_2 := blk_frozen BK167.out 2; have hfz23_3 := blk_frozen BK167.out 3) | ((with_reducible refine gate_callee (f := 79) rfl ?_); refine goesL_ (some 19) rfl rfl Try.func79 (by kernel_rfl) rfl #[.slice A166_0 ((rd_T39 l0_0 x13_1).f0).length c166_0] rfl (by (try simp only [List.map_toArray, List.map_cons, List.map_nil]); first | done | rfl | (simp only [List.length_drop, List.length_take]; rfl)) ?_; (with_reducible refine (slices_Clone_int64_int64.calls _ _ ((rd_T39 l0_0 x13_1).f0) t168 _ ?side1 ?side2 A17.out).mono ?_); (case side1 => exact Kd.C_below HR166_0.out (by repeat (first | (with_reducible first | exact HB.out | apply below_alloc | apply pw_below_drewN | apply below_drew1 | refine below_set ?_ GE160.out | refine below_set ?_ GE161.out | refine below_set ?_ GE165.out | refine below_set ?_ GE167.out) | exact HB.out))); (case side2 => exact HC166_0.out); rintro e w24 ⟨v169, rfl, ho0, hb⟩; refine ⟨_, rfl, ?_⟩; have n0_ := Aside0.mk (Kd.S_elder' (by (with_reducible repeat (first | apply Kd.S_alloc | apply Kd.S_drewN | apply Kd.S_drew)); exact (Kd.S_mono (Kd.S_far (p := ⟨gb167, 3, none⟩) (Kd.S_far (p := ⟨gb167, 2, none⟩) (Kd.S_far (p := ⟨gb167, 1, none⟩) (Kd.S_far (p := ⟨gb167, 0, none⟩) (Kd.S_mono HO_166000.out (fun k_ hk => (⟨hk, hk.2⟩ : _ ∧ k_ ≠ gb167))) (fun _ hk => hk.2) (.slice A166_0 ((rd_T39 l0_0 x13_1).f0).length c166_0)) (fun _ hk => hk.2) (.int .i64 ((rd_T39 l0_0 x13_1).f1))) (fun _ hk => hk.2) (.int .i64 ((rd_T39 l0_0 x13_1).f2))) (fun _ hk => hk.2) (.int .i64 ((rd_T39 l0_0 x13_1).f3))) (fun _ h_ => h_.1))) (Kd.R_base ho0) hb); have n1_ := Aside0.mk (Kd.R_elder' (by (with_reducible repeat (first | apply Kd.R_alloc | apply Kd.R_drewN | apply Kd.R_drew)); exact (Kd.R_mono (Kd.R_far (p := ⟨gb167, 3, none⟩) (Kd.R_far (p := ⟨gb167, 2, none⟩) (Kd.R_far (p := ⟨gb167, 1, none⟩) (Kd.R_far (p := ⟨gb167, 0, none⟩) (Kd.R_types HO_166001.out BK167.out (by decide)) (fun _ hk => hk.2) (.slice A166_0 ((rd_T39 l0_0 x13_1).f0).length c166_0)) (fun _ hk => hk.2) (.int .i64 ((rd_T39 l0_0 x13_1).f1))) (fun _ hk => hk.2) (.int .i64 ((rd_T39 l0_0 x13_1).f2))) (fun _ hk => hk.2) (.int .i64 ((rd_T39 l0_0 x13_1).f3))) (fun _ h_ => h_.1))) (Kd.R_base ho0) hb); have n2_ := Aside0.mk (Kd.R_lower (Kd.R_new' ho0 (Kd.R_lt (by (with_reducible repeat (first | apply Kd.R_alloc | apply Kd.R_drewN | apply Kd.R_drew)); exact (Kd.R_mono (Kd.R_far (p := ⟨gb167, 3, none⟩) (Kd.R_far (p := ⟨gb167, 2, none⟩) (Kd.R_far (p := ⟨gb167, 1, none⟩) (Kd.R_far (p := ⟨gb167, 0, none⟩) (Kd.R_types HO_166001.out BK167.out (by decide)) (fun _ hk => hk.2) (.slice A166_0 ((rd_T39 l0_0 x13_1).f0).length c166_0)) (fun _ hk => hk.2) (.int .i64 ((rd_T39 l0_0 x13_1).f1))) (fun _ hk => hk.2) (.int .i64 ((rd_T39 l0_0 x13_1).f2))) (fun _ hk => hk.2) (.int .i64 ((rd_T39 l0_0 x13_1).f3))) (fun _ h_ => h_.1))))) (below_size (by repeat (first | (with_reducible first | exact HB.out | apply below_alloc | apply pw_below_drewN | apply below_drew1 | refine below_set ?_ GE160.out | refine below_set ?_ GE161.out | refine below_set ?_ GE165.out | refine below_set ?_ GE167.out) | exact HB.out)))); have n3_ := Aside0.mk (blk_below (g := gb160) (o := .cells #[.slice (some ad166) l0_0.length c0_0, .slice A0_1 l0_1.length c0_1] 27 (0, 0)) (by (with_reducible repeat (first | refine blk_drewN ?_ _ | refine blk_drew ?_ | refine blk_alloc ?_ _)); refine blk_far ?_ NB160_167.out _; (with_reducible repeat (first | refine blk_drewN ?_ _ | refine blk_drew ?_ | refine blk_alloc ?_ _)); refine blk_far ?_ NB160_167.out _; (with_reducible repeat (first | refine blk_drewN ?_ _ | refine blk_drew ?_ | refine blk_alloc ?_ _)); refine blk_far ?_ NB160_167.out _; (with_reducible repeat (first | refine blk_drewN ?_ _ | refine blk_drew ?_ | refine blk_alloc ?_ _)); refine blk_far ?_ NB160_167.out _; (with_reducible repeat (first | refine blk_drewN ?_ _ | refine blk_drew ?_ | refine blk_alloc ?_ _)); exact BK160.out) hb); have n4_ := Aside0.mk (blk_below (g := gb161) (o := .cells #[.slice none 0 0, .slice none 0 0] 27 (0, 0)) (by (with_reducible repeat (first | refine blk_drewN ?_ _ | refine blk_drew ?_ | refine blk_alloc ?_ _)); refine blk_far ?_ NB161_167.out _; (with_reducible repeat (first | refine blk_drewN ?_ _ | refine blk_drew ?_ | refine blk_alloc ?_ _)); refine blk_far ?_ NB161_167.out _; (with_reducible repeat (first | refine blk_drewN ?_ _ | refine blk_drew ?_ | refine blk_alloc ?_ _)); refine blk_far ?_ NB161_167.out _; (with_reducible repeat (first | refine blk_drewN ?_ _ | refine blk_drew ?_ | refine blk_alloc ?_ _)); refine blk_far ?_ NB161_167.out _; (with_reducible repeat (first | refine blk_drewN ?_ _ | refine blk_drew ?_ | refine blk_alloc ?_ _)); exact BK161.out) hb); have n5_ := Aside0.mk (blk_below (g := gb165) (o := .cells #[u166000, .slice Ao8 t162.length co8] 27 (0, 0)) (by (with_reducible repeat (first | refine blk_drewN ?_ _ | refine blk_drew ?_ | refine blk_alloc ?_ _)); refine blk_far ?_ NB165_167.out _; (with_reducible repeat (first | refine blk_drewN ?_ _ | refine blk_drew ?_ | refine blk_alloc ?_ _)); refine blk_far ?_ NB165_167.out _; (with_reducible repeat (first | refine blk_drewN ?_ _ | refine blk_drew ?_ | refine blk_alloc ?_ _)); refine blk_far ?_ NB165_167.out _; (with_reducible repeat (first | refine blk_drewN ?_ _ | refine blk_drew ?_ | refine blk_alloc ?_ _)); refine blk_far ?_ NB165_167.out _; (with_reducible repeat (first | refine blk_drewN ?_ _ | refine blk_drew ?_ | refine blk_alloc ?_ _)); exact BK165.out) hb); have n6_ := Aside0.mk (blk_below (g := gb167) (o := .cells #[.slice A166_0 ((rd_T39 l0_0 x13_1).f0).length c166_0, .int .i64 ((rd_T39 l0_0 x13_1).f1), .int .i64 ((rd_T39 l0_0 x13_1).f2), .int .i64 ((rd_T39 l0_0 x13_1).f3)] 39 (0, 0)) (by (with_reducible repeat (first | refine blk_drewN ?_ _ | refine blk_drew ?_ | refine blk_alloc ?_ _)); refine blk_put (cs := #[.slice A166_0 ((rd_T39 l0_0 x13_1).f0).length c166_0, .int .i64 ((rd_T39 l0_0 x13_1).f1), .int .i64 ((rd_T39 l0_0 x13_1).f2), .int .i64 0]) ?_ 3 _ rfl; (with_reducible repeat (first | refine blk_drewN ?_ _ | refine blk_drew ?_ | refine blk_alloc ?_ _)); refine blk_put (cs := #[.slice A166_0 ((rd_T39 l0_0 x13_1).f0).length c166_0, .int .i64 ((rd_T39 l0_0 x13_1).f1), .int .i64 0, .int .i64 0]) ?_ 2 _ rfl; (with_reducible repeat (first | refine blk_drewN ?_ _ | refine blk_drew ?_ | refine blk_alloc ?_ _)); refine blk_put (cs := #[.slice A166_0 ((rd_T39 l0_0 x13_1).f0).length c166_0, .int .i64 0, .int .i64 0, .int .i64 0]) ?_ 1 _ rfl; (with_reducible repeat (first | refine blk_drewN ?_ _ | refine blk_drew ?_ | refine blk_alloc ?_ _)); refine blk_put (cs := #[.slice none 0 0, .int .i64 0, .int .i64 0, .int .i64 0]) ?_ 0 _ rfl; (with_reducible repeat (first | refine blk_drewN ?_ _ | refine blk_drew ?_ | refine blk_alloc ?_ _)); exact BK167.out) hb); have n7_ := Aside0.mk (below_step (by repeat (first | (with_reducible first | exact HB.out | apply below_alloc | apply pw_below_drewN | apply below_drew1 | refine below_set ?_ GE160.out | refine below_set ?_ GE161.out | refine below_set ?_ GE165.out | refine below_set ?_ GE167.out) | exact HB.out)) hb); clear HO_166000; clear HO_166001; clear BK160; clear BK161; clear BK165; clear BK167; clear HB; have HO_166000 := n0_; have HO_166001 := n1_; have HO170 := n2_; have BK160 := n3_; have BK161 := n4_; have BK165 := n5_; have BK167 := n6_; have HB := n7_; clear n0_ n1_ n2_ n3_ n4_ n5_ n6_ n7_; (try clear hb); (try clear hb2); (try clear hk); (try clear hi); (try clear ho0); obtain ⟨Ao25, co25, eo25⟩ := Kd.R_slice HO170.out; subst eo25; have hcz26_0 : w24.cell? ⟨gb167, 0, none⟩ = some (.slice A166_0 ((rd_T39 l0_0 x13_1).f0).length c166_0) := (blk_cell BK167.out 0).trans rfl; have hcz26_1 : w24.cell? ⟨gb167, 1, none⟩ = some (.int .i64 ((rd_T39 l0_0 x13_1).f1)) := (blk_cell BK167.out 1).trans rfl; have hcz26_2 : w24.cell? ⟨gb167, 2, none⟩ = some (.int .i64 ((rd_T39 l0_0 x13_1).f2)) := (blk_cell BK167.out 2).trans rfl; have hcz26_3 : w24.cell? ⟨gb167, 3, none⟩ = some (.int .i64 ((rd_T39 l0_0 x13_1).f3)) := (blk_cell BK167.out 3).trans rfl; have hfz26_0 := blk_frozen BK167.out 0; have hfz26_1 := blk_frozen BK167.out 1; have hfz26_2 := blk_frozen BK167.out 2; have hfz26_3 := blk_frozen BK167.out 3) | ((with_reducible refine gate_store (t := 25) (p := 20) rfl ?_); refine store_event (t := 25) (p := 20) (v := ?vo_w27) (w1 := (w24.setCell ⟨gb167, 0, none⟩ (.slice Ao25 t168.length co25))) ?hg ?ho ?hn ?hr ?_; (case ho => rfl); (case hg => rfl); (case hn => rfl); (case hr => first | (go_simp; done) | (go_simp; rfl)); intro w27 hw; have n0_ : Aside0 (Kd.S k39 39 w27 w.heap.size (fun k_ => some k_ ≠ (.slice Ao8 t162.length co8 : Value).ownBlock ∧ some k_ ≠ (.slice Ao25 t168.length co25 : Value).ownBlock ∧ k_ ≠ gb167) u166000 x166000_1) := ⟨(by rw [hw]; exact (by (with_reducible repeat (first | apply Kd.S_alloc | apply Kd.S_drewN | apply Kd.S_drew)); exact Kd.S_mono (Kd.S_far (p := ⟨gb167, 0, none⟩) (Kd.S_mono HO_166000.out (fun k_ hk => (⟨hk, hk.1.2⟩ : _ ∧ k_ ≠ gb167))) (fun _ hk => hk.2) (.slice Ao25 t168.length co25)) (fun _ hk => ⟨hk.1.1.1, ⟨hk.1.2, hk.1.1.2⟩⟩)))⟩; have n1_ : Aside0 (Kd.R (Kd.int .i64) 2 w27 w.heap.size (fun k_ => some k_ ≠ (.slice Ao25 t168.length co25 : Value).ownBlock) (.slice Ao8 t162.length co8) t162) := ⟨(by rw [hw]; exact (by (with_reducible repeat (first | apply Kd.R_alloc | apply Kd.R_drewN | apply Kd.R_drew)); exact Kd.R_mono (Kd.R_far (p := ⟨gb167, 0, none⟩) (Kd.R_types HO_166001.out BK167.out (by decide)) (fun _ hk => hk.2) (.slice Ao25 t168.length co25)) (fun _ hk => hk.1.2)))⟩; have n2_ : Aside0 (Kd.R (Kd.int .i64) 2 w27 w.heap.size (fun k_ => some k_ ≠ (.slice Ao8 t162.length co8 : Value).ownBlock) (.slice Ao25 t168.length co25) t168) := ⟨(by rw [hw]; exact (by (with_reducible repeat (first | apply Kd.R_alloc | apply Kd.R_drewN | apply Kd.R_drew)); exact Kd.R_mono (Kd.R_far (p := ⟨gb167, 0, none⟩) (Kd.R_types HO170.out BK167.out (by decide)) (fun _ hk => hk.2) (.slice Ao25 t168.length co25)) (fun _ hk => hk.1.2)))⟩; have n3_ : Aside0 (w27.heap[gb160]? = some (.cells #[.slice (some ad166) l0_0.length c0_0, .slice A0_1 l0_1.length c0_1] 27 (0, 0))) := ⟨(by rw [hw]; exact (by (with_reducible repeat (first | refine blk_drewN ?_ _ | refine blk_drew ?_ | refine blk_alloc ?_ _)); refine blk_far ?_ NB160_167.out _; (with_reducible repeat (first | refine blk_drewN ?_ _ | refine blk_drew ?_ | refine blk_alloc ?_ _)); exact BK160.out))⟩; have n4_ : Aside0 (w27.heap[gb161]? = some (.cells #[.slice none 0 0, .slice none 0 0] 27 (0, 0))) := ⟨(by rw [hw]; exact (by (with_reducible repeat (first | refine blk_drewN ?_ _ | refine blk_drew ?_ | refine blk_alloc ?_ _)); refine blk_far ?_ NB161_167.out _; (with_reducible repeat (first | refine blk_drewN ?_ _ | refine blk_drew ?_ | refine blk_alloc ?_ _)); exact BK161.out))⟩; have n5_ : Aside0 (w27.heap[gb165]? = some (.cells #[u166000, .slice Ao8 t162.length co8] 27 (0, 0))) := ⟨(by rw [hw]; exact (by (with_reducible repeat (first | refine blk_drewN ?_ _ | refine blk_drew ?_ | refine blk_alloc ?_ _)); refine blk_far ?_ NB165_167.out _; (with_reducible repeat (first | refine blk_drewN ?_ _ | refine blk_drew ?_ | refine blk_alloc ?_ _)); exact BK165.out))⟩; have n6_ : Aside0 (w27.heap[gb167]? = some (.cells #[.slice Ao25 t168.length co25, .int .i64 ((rd_T39 l0_0 x13_1).f1), .int .i64 ((rd_T39 l0_0 x13_1).f2), .int .i64 ((rd_T39 l0_0 x13_1).f3)] 39 (0, 0))) := ⟨(by rw [hw]; exact (by (with_reducible repeat (first | refine blk_drewN ?_ _ | refine blk_drew ?_ | refine blk_alloc ?_ _)); refine blk_put (cs := #[.slice A166_0 ((rd_T39 l0_0 x13_1).f0).length c166_0, .int .i64 ((rd_T39 l0_0 x13_1).f1), .int .i64 ((rd_T39 l0_0 x13_1).f2), .int .i64 ((rd_T39 l0_0 x13_1).f3)]) ?_ 0 _ rfl; (with_reducible repeat (first | refine blk_drewN ?_ _ | refine blk_drew ?_ | refine blk_alloc ?_ _)); exact BK167.out))⟩; have n7_ : Aside0 (Below w.heap.size w w27) := ⟨(by rw [hw]; exact (by repeat (first | (with_reducible first | exact HB.out | apply below_alloc | apply pw_below_drewN | apply below_drew1 | refine below_set ?_ GE160.out | refine below_set ?_ GE161.out | refine below_set ?_ GE165.out | refine below_set ?_ GE167.out) | exact HB.out)))⟩; clear hw; clear HO_166000; clear HO_166001; clear HO170; clear BK160; clear BK161; clear BK165; clear BK167; clear HB; have HO_166000 := n0_; have HO_166001 := n1_; have HO170 := n2_; have BK160 := n3_; have BK161 := n4_; have BK165 := n5_; have BK167 := n6_; have HB := n7_; clear n0_ n1_ n2_ n3_ n4_ n5_ n6_ n7_; have hnb28 := NB165_160.out; have hnc28 := NB160_165.out; have hnb29 := NB165_161.out; have hnc29 := NB161_165.out; have hcz30_0 : w27.cell? ⟨gb165, 0, none⟩ = some (u166000) := (blk_cell BK165.out 0).trans rfl; have hcz30_1 : w27.cell? ⟨gb165, 1, none⟩ = some (.slice Ao8 t162.length co8) := (blk_cell BK165.out 1).trans rfl; have hfz30_0 := blk_frozen BK165.out 0; have hfz30_1 := blk_frozen BK165.out 1; have hcz31_0 : w27.cell? ⟨gb167, 0, none⟩ = some (.slice Ao25 t168.length co25) := (blk_cell BK167.out 0).trans rfl; have hcz31_1 : w27.cell? ⟨gb167, 1, none⟩ = some (.int .i64 ((rd_T39 l0_0 x13_1).f1)) := (blk_cell BK167.out 1).trans rfl; have hcz31_2 : w27.cell? ⟨gb167, 2, none⟩ = some (.int .i64 ((rd_T39 l0_0 x13_1).f2)) := (blk_cell BK167.out 2).trans rfl; have hcz31_3 : w27.cell? ⟨gb167, 3, none⟩ = some (.int .i64 ((rd_T39 l0_0 x13_1).f3)) := (blk_cell BK167.out 3).trans rfl; have hfz31_0 := blk_frozen BK167.out 0; have hfz31_1 := blk_frozen BK167.out 1; have hfz31_2 := blk_frozen BK167.out 2; have hfz31_3 := blk_frozen BK167.out 3) | ((with_reducible refine gate_builtin (b := .append) (xs := #[.tmp 22, .tmp 24]) rfl ?_); at_builtin; refine Kd.S_append k39 (w0 := w) w.heap.size rfl (.tmp 22) (.tmp 24) 24 39 (.agg #[(.slice none 0 0), (.int .i64 0), (.int .i64 0), (.int .i64 0)]) 48 rfl Try.underlying24 info39 rfl (by decide) (by omega) u166000 x166000_1 (⟨t168, (rd_T39 l0_0 x13_1).f1, (rd_T39 l0_0 x13_1).f2, (rd_T39 l0_0 x13_1).f3⟩ : S39) [.slice Ao25 t168.length co25, .int .i64 ((rd_T39 l0_0 x13_1).f1), .int .i64 ((rd_T39 l0_0 x13_1).f2), .int .i64 ((rd_T39 l0_0 x13_1).f3)] (fun k_ => some k_ ≠ (.slice Ao8 t162.length co8 : Value).ownBlock ∧ k_ ≠ gb167) (fun k_ => some k_ = (.slice Ao25 t168.length co25 : Value).ownBlock) rfl rfl ?aP (fun k_ hk_ => ((Kd.R_mono (ok' := fun k_ => ((fun k_ => some k_ ≠ (.slice Ao8 t162.length co8 : Value).ownBlock ∧ k_ ≠ gb167)) k_ ∧ some k_ ≠ (u166000 : Value).ownBlock) (Kd.R_types (Kd.R_apart' (HO170.out) (Kd.S_typed HO_166000.out) (by decide)) BK167.out (by decide)) (fun k_ hk => ⟨⟨hk.1.1, hk.2⟩, hk.1.2⟩))).1 k_ hk_.symm) ?aF ?aO ?aB ?aS ?aL ?_; (case aP => exact k39_mkM _ _ _ (⟨t168, (rd_T39 l0_0 x13_1).f1, (rd_T39 l0_0 x13_1).f2, (rd_T39 l0_0 x13_1).f3⟩ : S39) (Kd.R_mono (Kd.R_tight rfl (Kd.R_mono (ok' := fun k_ => ((fun k_ => some k_ ≠ (.slice Ao8 t162.length co8 : Value).ownBlock ∧ k_ ≠ gb167)) k_ ∧ some k_ ≠ (u166000 : Value).ownBlock) (Kd.R_types (Kd.R_apart' (HO170.out) (Kd.S_typed HO_166000.out) (by decide)) BK167.out (by decide)) (fun k_ hk => ⟨⟨hk.1.1, hk.2⟩, hk.1.2⟩))) (fun _ h_ => h_))); (case aB => exact (by repeat (first | (with_reducible first | exact HB.out | apply below_alloc | apply pw_below_drewN | apply below_drew1 | refine below_set ?_ GE160.out | refine below_set ?_ GE161.out | refine below_set ?_ GE165.out | refine below_set ?_ GE167.out) | exact HB.out))); (case aF => exact (fun k_ hk => ⟨Kd.fresh' (Kd.R_lt (by (with_reducible repeat (first | apply Kd.R_alloc | apply Kd.R_drewN | apply Kd.R_drew)); exact HO_166001.out)) k_ hk, Kd.freshB (g := gb167) (o := .cells #[.slice Ao25 t168.length co25, .int .i64 ((rd_T39 l0_0 x13_1).f1), .int .i64 ((rd_T39 l0_0 x13_1).f2), .int .i64 ((rd_T39 l0_0 x13_1).f3)] 39 (0, 0)) (by (with_reducible repeat (first | refine blk_drewN ?_ _ | refine blk_drew ?_ | refine blk_alloc ?_ _)); exact BK167.out) k_ hk⟩)); (case aO => exact (by (with_reducible repeat (first | apply Kd.S_alloc | apply Kd.S_drewN | apply Kd.S_drew)); exact Kd.S_mono HO_166000.out (fun k_ hk => ⟨⟨hk.1, hk.2.2⟩, fun e_ => hk.2.1 e_⟩))); (case aS => exact (below_size (by repeat (first | (with_reducible first | exact HB.out | apply below_alloc | apply pw_below_drewN | apply below_drew1 | refine below_set ?_ GE160.out | refine below_set ?_ GE161.out | refine below_set ?_ GE165.out | refine below_set ?_ GE167.out) | exact HB.out)))); (case aL => have := LMc18.out; omega); intro v172 w32 ho hb hg hat; rw [← Ny171.out] at ho; have n0_ := Aside0.mk (Kd.R_over' (by (with_reducible repeat (first | apply Kd.R_alloc | apply Kd.R_drewN | apply Kd.R_drew)); exact HO_166001.out) (Kd.S_typed (by (with_reducible repeat (first | apply Kd.S_alloc | apply Kd.S_drewN | apply Kd.S_drew)); exact HO_166000.out)) (by decide) hg); have n1_ := Aside0.mk (blk_grown (g := gb160) (o := .cells #[.slice (some ad166) l0_0.length c0_0, .slice A0_1 l0_1.length c0_1] 27 (0, 0)) (by (with_reducible repeat (first | refine blk_drewN ?_ _ | refine blk_drew ?_ | refine blk_alloc ?_ _)); exact BK160.out) hg (Kd.S_ne HO_166000.out BK160.out (by decide))); have n2_ := Aside0.mk (blk_grown (g := gb161) (o := .cells #[.slice none 0 0, .slice none 0 0] 27 (0, 0)) (by (with_reducible repeat (first | refine blk_drewN ?_ _ | refine blk_drew ?_ | refine blk_alloc ?_ _)); exact BK161.out) hg (Kd.S_ne HO_166000.out BK161.out (by decide))); have n3_ := Aside0.mk (blk_grown (g := gb165) (o := .cells #[u166000, .slice Ao8 t162.length co8] 27 (0, 0)) (by (with_reducible repeat (first | refine blk_drewN ?_ _ | refine blk_drew ?_ | refine blk_alloc ?_ _)); exact BK165.out) hg (Kd.S_ne HO_166000.out BK165.out (by decide))); have n4_ := Aside0.mk (blk_grown (g := gb167) (o := .cells #[.slice Ao25 t168.length co25, .int .i64 ((rd_T39 l0_0 x13_1).f1), .int .i64 ((rd_T39 l0_0 x13_1).f2), .int .i64 ((rd_T39 l0_0 x13_1).f3)] 39 (0, 0)) (by (with_reducible repeat (first | refine blk_drewN ?_ _ | refine blk_drew ?_ | refine blk_alloc ?_ _)); exact BK167.out) hg (Kd.S_away HO_166000.out (fun _ hk => hk.2.2))); have n5_ := Aside0.mk (hb); have n6_ := Aside0.mk (ho); clear HO_166001; clear BK160; clear BK161; clear BK165; clear BK167; clear HB; clear HO_166000; clear HO170; have HO_166001 := n0_; have BK160 := n1_; have BK161 := n2_; have BK165 := n3_; have BK167 := n4_; have HB := n5_; have HO173 := n6_; clear n0_ n1_ n2_ n3_ n4_ n5_ n6_; clear ho hb hg hat; obtain ⟨Ao33, co33, eo33⟩ := Kd.S_slice HO173.out; subst eo33; have hcz34_0 : w32.cell? ⟨gb165, 0, none⟩ = some (u166000) := (blk_cell BK165.out 0).trans rfl; have hcz34_1 : w32.cell? ⟨gb165, 1, none⟩ = some (.slice Ao8 t162.length co8) := (blk_cell BK165.out 1).trans rfl; have hfz34_0 := blk_frozen BK165.out 0; have hfz34_1 := blk_frozen BK165.out 1))
              go_roundg k1
              case measure => have := HK1.out; omega
              case rel => exact ⟨(wrap64 (x13_1 + 1)), (y171), (.slice Ao33 y171.length co33), (by first | rfl | (simp; done) | (simp [*]; done)), H', ⟨by have := HK1.out; omega⟩, ⟨by (with_reducible repeat (first | apply Kd.S_alloc | apply Kd.S_drewN | apply Kd.S_drew)); exact Kd.S_mono (Kd.S_far (p := ⟨gb165, 0, none⟩) (Kd.S_types HO173.out BK165.out (by decide)) (fun _ hk => hk.2) (.slice Ao33 y171.length co33)) (fun _ hk => hk.1.1)⟩, ⟨by (with_reducible repeat (first | apply Kd.R_alloc | apply Kd.R_drewN | apply Kd.R_drew)); exact Kd.R_mono (Kd.R_far (p := ⟨gb165, 0, none⟩) (Kd.R_types HO_166001.out BK165.out (by decide)) (fun _ hk => hk.2) (.slice Ao33 y171.length co33)) (fun _ hk => trivial)⟩, ⟨by (with_reducible repeat (first | refine blk_drewN ?_ _ | refine blk_drew ?_ | refine blk_alloc ?_ _)); refine blk_far ?_ NB160_165.out _; (with_reducible repeat (first | refine blk_drewN ?_ _ | refine blk_drew ?_ | refine blk_alloc ?_ _)); exact BK160.out⟩, ⟨by (with_reducible repeat (first | refine blk_drewN ?_ _ | refine blk_drew ?_ | refine blk_alloc ?_ _)); refine blk_far ?_ NB161_165.out _; (with_reducible repeat (first | refine blk_drewN ?_ _ | refine blk_drew ?_ | refine blk_alloc ?_ _)); exact BK161.out⟩, ⟨by (with_reducible repeat (first | refine blk_drewN ?_ _ | refine blk_drew ?_ | refine blk_alloc ?_ _)); refine blk_put (cs := #[u166000, .slice Ao8 t162.length co8]) ?_ 0 _ rfl; (with_reducible repeat (first | refine blk_drewN ?_ _ | refine blk_drew ?_ | refine blk_alloc ?_ _)); exact BK165.out⟩, ⟨by repeat (first | (with_reducible first | exact HB.out | apply below_alloc | apply pw_below_drewN | apply below_drew1 | refine below_set ?_ GE160.out | refine below_set ?_ GE161.out | refine below_set ?_ GE165.out | refine below_set ?_ GE167.out) | exact HB.out)⟩⟩
            · rw [if_neg c18] at H
              exact absurd H (by simp)
          · rw [if_neg c16] at H
            exact absurd H (by simp)
        · rw [if_neg c15] at H
          exact absurd H (by simp)
      · rw [if_neg c14] at H
        have c14b0 : decide (x13_1 < (l0_0.length : Int)) = false := decide_eq_false c14
        clear c14
        simp only [Option.some.injEq, Prod.mk.injEq] at H
        obtain ⟨rfl, rfl⟩ := H
        have hnb35 := NB165_160.out
        have hnc35 := NB160_165.out
        have hnb36 := NB165_161.out
        have hnc36 := NB161_165.out
        have hcz37_0 : wr.cell? ⟨gb165, 0, none⟩ = some (u166000) := (blk_cell BK165.out 0).trans rfl
        have hcz37_1 : wr.cell? ⟨gb165, 1, none⟩ = some (.slice Ao8 t162.length co8) := (blk_cell BK165.out 1).trans rfl
        have hfz37_0 := blk_frozen BK165.out 0
        have hfz37_1 := blk_frozen BK165.out 1
        obtain ⟨Ao38, co38, eo38⟩ := Kd.S_slice HO_166000.out
        subst eo38
        have hnb39 := NB161_160.out
        have hnc39 := NB160_161.out
        have hcz40_0 : wr.cell? ⟨gb161, 0, none⟩ = some (.slice none 0 0) := (blk_cell BK161.out 0).trans rfl
        have hcz40_1 : wr.cell? ⟨gb161, 1, none⟩ = some (.slice none 0 0) := (blk_cell BK161.out 1).trans rfl
        have hfz40_0 := blk_frozen BK161.out 0
        have hfz40_1 := blk_frozen BK161.out 1
        go_wp2
        refine bodyPost_ret (results_cell_row rfl _ _ gb161 27 #[.slice Ao38 x166000_1.length co38, .slice Ao8 t162.length co8] (0, 0) _ rfl (by (with_reducible repeat (first | refine blk_drewN ?_ _ | refine blk_drew ?_ | refine blk_alloc ?_ _)); refine blk_put (cs := #[.slice Ao38 x166000_1.length co38, .slice none 0 0]) ?_ 1 _ rfl; (with_reducible repeat (first | refine blk_drewN ?_ _ | refine blk_drew ?_ | refine blk_alloc ?_ _)); refine blk_put (cs := #[.slice none 0 0, .slice none 0 0]) ?_ 0 _ rfl; (with_reducible repeat (first | refine blk_drewN ?_ _ | refine blk_drew ?_ | refine blk_alloc ?_ _)); exact BK161.out) Try.underlying27 rfl (by kernel_rfl)) rfl ?_
        exact ⟨_, _, by first | rfl | (simp [errW_none, errW_some] <;> rfl) | (simp [*, errW_none, errW_some] <;> rfl), by (with_reducible repeat (first | apply Kd.S_alloc | apply Kd.S_drewN | apply Kd.S_drew)); exact Kd.S_mono (Kd.S_far (p := ⟨gb161, 1, none⟩) (Kd.S_far (p := ⟨gb161, 0, none⟩) (Kd.S_types HO_166000.out BK161.out (by decide)) (fun _ hk => hk.2) (.slice Ao38 x166000_1.length co38)) (fun _ hk => hk.2) (.slice Ao8 t162.length co8)) (fun _ hk => hk.1), by (with_reducible repeat (first | apply Kd.R_alloc | apply Kd.R_drewN | apply Kd.R_drew)); exact Kd.R_mono (Kd.R_far (p := ⟨gb161, 1, none⟩) (Kd.R_far (p := ⟨gb161, 0, none⟩) (Kd.R_types HO_166001.out BK161.out (by decide)) (fun _ hk => hk.2) (.slice Ao38 x166000_1.length co38)) (fun _ hk => hk.2) (.slice Ao8 t162.length co8)) (fun _ hk => trivial), by repeat (first | (with_reducible first | exact HB.out | apply below_alloc | apply pw_below_drewN | apply below_drew1 | refine below_set ?_ GE160.out | refine below_set ?_ GE161.out | refine below_set ?_ GE165.out) | exact HB.out)⟩

end Go.Proofs.Ytjoghfehmhapbaa.QFnExactNewRun
