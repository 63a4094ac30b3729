-- Written by a program of this session out of the printer's texts and contracts of its own.
import Derived.Test.YtmjfmhbklifafaaQFnHomogenx0
import Derived.Test.YtmjfmhbklifafaaQFnHomogenx2
namespace Go.Proofs.Ytmjfmhbklifafaa.QFnHomogen
open Go.RowKit Go.Proofs.YtmjfmhbklifafaaW.PrintWords Go.Proofs.YtmjfmhbklifafaaW.PrintLast Go.Proofs.YtmjfmhbklifafaaW.PrintMore
attribute [local go_sem] max2_int min2_int max_two min_two max_three min_three max_four min_four   -- for this text's walks alone
set_option linter.unusedVariables false
set_option linter.unusedSimpArgs false

/-! ### impl_seriesOk: function 32 -/
def impl_seriesOk.f (k : Nat) (l0 : List Int) : Option (Bool) := (impl_in.f (l0.length : Int) 1 500).bind fun t207 => (if t207 = true then ((impl_each.f k l0 (l0.length : Int) (-100000) 100000).bind fun t208 => (some t208)) else (some false))
theorem impl_seriesOk.mono : ∀ a0 k, LeO (impl_seriesOk.f k a0) (impl_seriesOk.f (k + 1) a0) := by
  intro a0 k
  unfold impl_seriesOk.f
  repeat' first
      | (with_reducible exact impl_each.mono _ _ _ _ _)
      | (with_reducible exact LeO.refl _)
      | (with_reducible exact LeO.none _)
      | (with_reducible refine LeO.ite ?_ ?_)
      | (with_reducible refine LeO.bind ?_ (fun _ => ?_))
      | exact impl_each.mono _ _ _ _ _
      | exact LeO.none _
      | refine LeO.ite ?_ ?_
      | refine LeO.bind ?_ (fun _ => ?_)
set_option maxHeartbeats 8000000 in
set_option maxRecDepth 100000 in
theorem impl_seriesOk.calls (k : Nat) (A0 : Option Addr) (c0 : Nat) (l0 : List Int) (r : Bool) (w : World) (hr0 : Kd.C (Kd.int .i64) w A0 l0.length l0) (hc0 : l0.length ≤ c0) (h : impl_seriesOk.f k l0 = some r) :
    Calls Try.prog 32 #[.slice A0 l0.length c0] w fun e w' => e = .returned (.bool r) ∧ Drawn0 w w' := by
  have HR0 := Aside0.mk hr0
  have HC0 := Aside0.mk hc0
  clear hr0 hc0
  have H : ((impl_in.f (l0.length : Int) 1 500).bind fun t207 => (if t207 = true then ((impl_each.f k l0 (l0.length : Int) (-100000) 100000).bind fun t208 => (some t208)) else (some false))) = some r := h
  clear h
  replace H := Option.bind_eq_some_iff.mp H
  obtain ⟨t207, A20, H⟩ := H
  replace H : (if t207 = true then ((impl_each.f k l0 (l0.length : Int) (-100000) 100000).bind fun t208 => (some t208)) else (some false)) = some r := H
  have A2 := Aside0.mk A20
  clear A20
  by_cases c3 : t207 = true
  · subst c3
    have H1 : ((impl_each.f k l0 (l0.length : Int) (-100000) 100000).bind fun t208 => (some t208)) = some r := by rw [if_pos rfl] at H; exact H
    clear H
    have H := H1
    clear H1
    replace H := Option.bind_eq_some_iff.mp H
    obtain ⟨t208, A40, H⟩ := H
    replace H : (some t208) = some r := H
    have A4 := Aside0.mk A40
    clear A40
    obtain rfl := Option.some.inj H
    go_enter Try.func32, Try.ntmps32
    go_wp2_with (first | ((with_reducible refine gate_callee (f := 34) rfl ?_); refine goesL_ (some 5) rfl rfl Try.func34 (by kernel_rfl) rfl #[.int .i64 (l0.length : Int), .int .i64 1, .int .i64 500] rfl (by (try simp only [List.map_toArray, List.map_cons, List.map_nil]); first | done | rfl | (simp only [List.length_drop, List.length_take]; rfl)) ?_; (with_reducible refine (impl_in.calls (l0.length : Int) 1 500 true _ A2.out).mono ?_); rintro e w' ⟨rfl, ⟨nd, rfl⟩⟩; refine ⟨_, rfl, ?_⟩) | (go_at_call 40; (with_reducible refine (impl_each.calls k _ _ l0 (l0.length : Int) (-100000) 100000 t208 _ ?side1 ?side2 A4.out).mono ?_); (case side1 => repeat (first | exact HR0.out | (with_reducible refine Kd.C_alloc ?_ _) | (with_reducible refine Kd.C_drewN ?_ _) | (with_reducible refine Kd.C_drew ?_))); (case side2 => exact HC0.out); rintro e w' ⟨rfl, ⟨nd, rfl⟩⟩))
    go_ret
    exact ⟨by first | rfl | (simp; done) | (simp [*]; done), by repeat (first | exact Drawn0.refl _ | apply Drawn0.step)⟩
  · replace c3 := Bool.eq_false_iff.mpr c3
    subst c3
    have H1 : (some false) = some r := by rw [if_neg (show ¬ (false = true) by decide)] at H; exact H
    clear H
    have H := H1
    clear H1
    obtain rfl := Option.some.inj H
    go_enter Try.func32, Try.ntmps32
    go_wp2_with (first | ((with_reducible refine gate_callee (f := 34) rfl ?_); refine goesL_ (some 5) rfl rfl Try.func34 (by kernel_rfl) rfl #[.int .i64 (l0.length : Int), .int .i64 1, .int .i64 500] rfl (by (try simp only [List.map_toArray, List.map_cons, List.map_nil]); first | done | rfl | (simp only [List.length_drop, List.length_take]; rfl)) ?_; (with_reducible refine (impl_in.calls (l0.length : Int) 1 500 false _ A2.out).mono ?_); rintro e w' ⟨rfl, ⟨nd, rfl⟩⟩; refine ⟨_, rfl, ?_⟩))
    go_ret
    exact ⟨by first | rfl | (simp; done) | (simp [*]; done), by repeat (first | exact Drawn0.refl _ | apply Drawn0.step)⟩

/-! ### impl_away: function 35 -/
def impl_away.f (a0 : Int) (a1 : Int) : Option (Int) := some (mx (wrap64 (a0 - a1)) (wrap64 (a1 - a0)))
set_option maxHeartbeats 8000000 in
set_option maxRecDepth 100000 in
theorem impl_away.calls (a0 : Int) (a1 : Int) (r : Int) (w : World) (h : impl_away.f a0 a1 = some r) :
    Calls Try.prog 35 #[.int .i64 a0, .int .i64 a1] w fun e w' => e = .returned (.int .i64 r) ∧ Below w.heap.size w w' := by
  have HB := Aside0.mk (Below.refl w.heap.size w)
  have H : (some (mx (wrap64 (a0 - a1)) (wrap64 (a1 - a0)))) = some r := h
  clear h
  obtain ⟨ji3, hji3⟩ : ∃ j_ : Int, (mx (wrap64 (a0 - a1)) (wrap64 (a1 - a0))) = j_ := ⟨_, rfl⟩
  replace H : (some ji3) = some r := by first | (rw [hji3] at H; exact H) | (simp only [hji3] at H ⊢; exact H)
  have hji3_ : (if (wrap64 (a0 - a1)) < (wrap64 (a1 - a0)) then (wrap64 (a1 - a0)) else (wrap64 (a0 - a1))) = ji3 := hji3
  obtain rfl := Option.some.inj H
  go_enter Try.func35, Try.ntmps35
  go_wp2
  go_ret
  exact ⟨by first | rfl | (simp [errW_none, errW_some] <;> rfl) | (simp only [← hji3]; first | rfl | (simp [errW_none, errW_some] <;> rfl)) | (simp [*, errW_none, errW_some] <;> rfl), by repeat (first | (with_reducible first | exact HB.out | apply below_alloc | apply pw_below_drewN | apply below_drew1) | exact HB.out)⟩

/-! ### impl_Break: function 13 -/
mutual
def impl_Break.j0 : Nat → List Int → Int → Bool → Option (Int × Int)
  | 0, _, _, _ => none
  | k + 1, x0, x4, x21 => if x21 = true then (some (0, 0)) else (impl_Break.l0 k x0 x4 0 x0 (x0.length : Int) 0)
def impl_Break.l0 : Nat → List Int → Int → Int → List Int → Int → Int → Option (Int × Int)
  | 0, _, _, _, _, _, _ => none
  | k + 1, x0, x4, x5, x22, x23, x24 => if x24 < x23 then (if 0 ≤ x24 then (if x24 < (x22.length : Int) then (impl_Break.l0 k x0 x4 (wrap64 (x5 + (rd x22 x24))) x22 x23 (wrap64 (x24 + 1))) else (none)) else (none)) else (impl_Break.l1 k x0 x4 x5 0 0 (-1) 1)
def impl_Break.l1 : Nat → List Int → Int → Int → Int → Int → Int → Int → Option (Int × Int)
  | 0, _, _, _, _, _, _, _ => none
  | k + 1, x0, x4, x5, x8, x9, x10, x11 => if x11 < x4 then (if 0 ≤ (wrap64 (x11 - 1)) then (if (wrap64 (x11 - 1)) < (x0.length : Int) then ((impl_away.f (wrap64 (x4 * (wrap64 (x8 + (rd x0 (wrap64 (x11 - 1))))))) (wrap64 (x11 * x5))).bind fun t212 => (if t212 > x10 then (impl_Break.l1 k x0 x4 x5 (wrap64 (x8 + (rd x0 (wrap64 (x11 - 1))))) x11 t212 (wrap64 (x11 + 1))) else (impl_Break.l1 k x0 x4 x5 (wrap64 (x8 + (rd x0 (wrap64 (x11 - 1))))) x9 x10 (wrap64 (x11 + 1))))) else (none)) else (none)) else (some (x9, x10))
end
def impl_Break.f (k : Nat) (l0 : List Int) : Option (Int × Int) := (impl_seriesOk.f k l0).bind fun t209 => (if t209 = true then (impl_Break.j0 k l0 (l0.length : Int) ((l0.length : Int) == 1)) else (impl_Break.j0 k l0 (l0.length : Int) true))
theorem impl_Break.mono_l : ∀ k, (∀ y0 y1 y2, LeO (impl_Break.j0 k y0 y1 y2) (impl_Break.j0 (k + 1) y0 y1 y2)) ∧ (∀ y0 y1 y2 y3 y4 y5, LeO (impl_Break.l0 k y0 y1 y2 y3 y4 y5) (impl_Break.l0 (k + 1) y0 y1 y2 y3 y4 y5)) ∧ (∀ y0 y1 y2 y3 y4 y5 y6, LeO (impl_Break.l1 k y0 y1 y2 y3 y4 y5 y6) (impl_Break.l1 (k + 1) y0 y1 y2 y3 y4 y5 y6))
  | 0 => ⟨fun _ _ _ r h => by simp [impl_Break.j0] at h, fun _ _ _ _ _ _ r h => by simp [impl_Break.l0] at h, fun _ _ _ _ _ _ _ r h => by simp [impl_Break.l1] at h⟩
  | k + 1 => by
    obtain ⟨ih0, ih1, ih2⟩ := impl_Break.mono_l k
    refine ⟨?_, ?_, ?_⟩
    · intro y0 y1 y2
      unfold impl_Break.j0
      repeat' first
      | (with_reducible exact ih0 _ _ _)
      | (with_reducible exact ih1 _ _ _ _ _ _)
      | (with_reducible exact ih2 _ _ _ _ _ _ _)
      | (with_reducible exact impl_seriesOk.mono _ _)
      | (with_reducible exact LeO.refl _)
      | (with_reducible exact LeO.none _)
      | (with_reducible refine LeO.ite ?_ ?_)
      | (with_reducible refine LeO.bind ?_ (fun _ => ?_))
      | exact ih0 _ _ _
      | exact ih1 _ _ _ _ _ _
      | exact ih2 _ _ _ _ _ _ _
      | exact impl_seriesOk.mono _ _
      | exact LeO.none _
      | refine LeO.ite ?_ ?_
      | refine LeO.bind ?_ (fun _ => ?_)
    · intro y0 y1 y2 y3 y4 y5
      unfold impl_Break.l0
      repeat' first
      | (with_reducible exact ih0 _ _ _)
      | (with_reducible exact ih1 _ _ _ _ _ _)
      | (with_reducible exact ih2 _ _ _ _ _ _ _)
      | (with_reducible exact impl_seriesOk.mono _ _)
      | (with_reducible exact LeO.refl _)
      | (with_reducible exact LeO.none _)
      | (with_reducible refine LeO.ite ?_ ?_)
      | (with_reducible refine LeO.bind ?_ (fun _ => ?_))
      | exact ih0 _ _ _
      | exact ih1 _ _ _ _ _ _
      | exact ih2 _ _ _ _ _ _ _
      | exact impl_seriesOk.mono _ _
      | exact LeO.none _
      | refine LeO.ite ?_ ?_
      | refine LeO.bind ?_ (fun _ => ?_)
    · intro y0 y1 y2 y3 y4 y5 y6
      unfold impl_Break.l1
      repeat' first
      | (with_reducible exact ih0 _ _ _)
      | (with_reducible exact ih1 _ _ _ _ _ _)
      | (with_reducible exact ih2 _ _ _ _ _ _ _)
      | (with_reducible exact impl_seriesOk.mono _ _)
      | (with_reducible exact LeO.refl _)
      | (with_reducible exact LeO.none _)
      | (with_reducible refine LeO.ite ?_ ?_)
      | (with_reducible refine LeO.bind ?_ (fun _ => ?_))
      | exact ih0 _ _ _
      | exact ih1 _ _ _ _ _ _
      | exact ih2 _ _ _ _ _ _ _
      | exact impl_seriesOk.mono _ _
      | exact LeO.none _
      | refine LeO.ite ?_ ?_
      | refine LeO.bind ?_ (fun _ => ?_)
theorem impl_Break.mono : ∀ a0 k, LeO (impl_Break.f k a0) (impl_Break.f (k + 1) a0) := by
  intro a0 k
  obtain ⟨ih0, ih1, ih2⟩ := impl_Break.mono_l k
  unfold impl_Break.f
  repeat' first
      | (with_reducible exact ih0 _ _ _)
      | (with_reducible exact ih1 _ _ _ _ _ _)
      | (with_reducible exact ih2 _ _ _ _ _ _ _)
      | (with_reducible exact impl_seriesOk.mono _ _)
      | (with_reducible exact LeO.refl _)
      | (with_reducible exact LeO.none _)
      | (with_reducible refine LeO.ite ?_ ?_)
      | (with_reducible refine LeO.bind ?_ (fun _ => ?_))
      | exact ih0 _ _ _
      | exact ih1 _ _ _ _ _ _
      | exact ih2 _ _ _ _ _ _ _
      | exact impl_seriesOk.mono _ _
      | exact LeO.none _
      | refine LeO.ite ?_ ?_
      | refine LeO.bind ?_ (fun _ => ?_)
set_option maxHeartbeats 8000000 in
set_option maxRecDepth 100000 in
theorem impl_Break.calls (k : Nat) (A0 : Option Addr) (c0 : Nat) (l0 : List Int) (r1 : Int) (r2 : Int) (w : World) (hr0 : Kd.C (Kd.int .i64) w A0 l0.length l0) (hc0 : l0.length ≤ c0) (h : impl_Break.f k l0 = some (r1, r2)) :
    Calls Try.prog 13 #[.slice A0 l0.length c0] w fun e w' => e = .returned (.tuple #[.int .i64 r1, .int .i64 r2]) ∧ Below w.heap.size w w' := by
  have HR0 := Aside0.mk hr0
  have HC0 := Aside0.mk hc0
  clear hr0 hc0
  have HB := Aside0.mk (Below.refl w.heap.size w)
  have H : ((impl_seriesOk.f k l0).bind fun t209 => (if t209 = true then (impl_Break.j0 k l0 (l0.length : Int) ((l0.length : Int) == 1)) else (impl_Break.j0 k l0 (l0.length : Int) true))) = some (r1, r2) := h
  clear h
  have HC2 := Aside0.mk H
  clear H
  go_enter Try.func13, Try.ntmps13
  go_upto_region 2 with (fail)
  go_cut [21] (fun v21 wc => ∃ (kq : Nat) (x21_1 : Bool), v21 = .bool x21_1 ∧ Aside0 (impl_Break.j0 kq l0 (l0.length : Int) x21_1 = some (r1, r2)) ∧ Aside0 (kq ≤ k) ∧ Aside0 (Below w.heap.size w wc))
  case first =>
    have H := HC2.out
    clear HC2
    replace H := Option.bind_eq_some_iff.mp H
    obtain ⟨t209, A30, H⟩ := H
    replace H : (if t209 = true then (impl_Break.j0 k l0 (l0.length : Int) ((l0.length : Int) == 1)) else (impl_Break.j0 k l0 (l0.length : Int) true)) = some (r1, r2) := H
    have A3 := Aside0.mk A30
    clear A30
    by_cases c4 : t209 = true
    · subst c4
      have H1 : (impl_Break.j0 k l0 (l0.length : Int) ((l0.length : Int) == 1)) = some (r1, r2) := by rw [if_pos rfl] at H; exact H
      clear H
      have H := H1
      clear H1
      have H' := Aside0.mk H
      clear H
      go_wp2_with (first | ((with_reducible refine gate_callee (f := 32) rfl ?_); refine goesL_ (some 16) rfl rfl Try.func32 (by kernel_rfl) rfl #[.slice A0 l0.length c0] rfl (by (try simp only [List.map_toArray, List.map_cons, List.map_nil]); first | done | rfl | (simp only [List.length_drop, List.length_take]; rfl)) ?_; (with_reducible refine (impl_seriesOk.calls k _ _ l0 true _ ?side1 ?side2 A3.out).mono ?_); (case side1 => repeat (first | exact (Kd.C_below HR0.out HB.out) | (with_reducible refine Kd.C_alloc ?_ _) | (with_reducible refine Kd.C_drewN ?_ _) | (with_reducible refine Kd.C_drew ?_))); (case side2 => exact HC0.out); rintro e w' ⟨rfl, ⟨nd, rfl⟩⟩; refine ⟨_, rfl, ?_⟩))
      go_meet
      case rel => exact ⟨_, (((l0.length : Int) == 1)), (by first | rfl | (simp; done) | (simp [*]; done)), H', ⟨by first | omega | exact Nat.le_refl _⟩, ⟨by repeat (first | (with_reducible first | exact HB.out | apply below_alloc | apply pw_below_drewN | apply below_drew1) | exact HB.out)⟩⟩
    · replace c4 := Bool.eq_false_iff.mpr c4
      subst c4
      have H1 : (impl_Break.j0 k l0 (l0.length : Int) true) = some (r1, r2) := by rw [if_neg (show ¬ (false = true) by decide)] at H; exact H
      clear H
      have H := H1
      clear H1
      have H' := Aside0.mk H
      clear H
      go_wp2_with (first | ((with_reducible refine gate_callee (f := 32) rfl ?_); refine goesL_ (some 16) rfl rfl Try.func32 (by kernel_rfl) rfl #[.slice A0 l0.length c0] rfl (by (try simp only [List.map_toArray, List.map_cons, List.map_nil]); first | done | rfl | (simp only [List.length_drop, List.length_take]; rfl)) ?_; (with_reducible refine (impl_seriesOk.calls k _ _ l0 false _ ?side1 ?side2 A3.out).mono ?_); (case side1 => repeat (first | exact (Kd.C_below HR0.out HB.out) | (with_reducible refine Kd.C_alloc ?_ _) | (with_reducible refine Kd.C_drewN ?_ _) | (with_reducible refine Kd.C_drew ?_))); (case side2 => exact HC0.out); rintro e w' ⟨rfl, ⟨nd, rfl⟩⟩; refine ⟨_, rfl, ?_⟩))
      go_meet
      case rel => exact ⟨_, (true), (by first | rfl | (simp; done) | (simp [*]; done)), H', ⟨by first | omega | exact Nat.le_refl _⟩, ⟨by repeat (first | (with_reducible first | exact HB.out | apply below_alloc | apply pw_below_drewN | apply below_drew1) | exact HB.out)⟩⟩
  case rest =>
    clear HC2
    try clear c1
    try clear p2
    try clear c3
    try clear c4
    obtain ⟨kq, x21_1, rfl, HA, HJ1, HB⟩ := hcut
    cases kq with
    | zero => exact absurd HA.out (by simp [impl_Break.j0])
    | succ kj1 =>
      have H := HA.out
      clear HA
      simp only [impl_Break.j0] at H
      by_cases c5 : x21_1 = true
      · subst c5
        have H1 : (some (0, 0)) = some (r1, r2) := by rw [if_pos rfl] at H; exact H
        clear H
        have H := H1
        clear H1
        simp only [Option.some.injEq, Prod.mk.injEq] at H
        obtain ⟨rfl, rfl⟩ := H
        go_wp2
        go_ret2
        exact ⟨by first | rfl | (simp [errW_none, errW_some] <;> rfl) | (simp [*, errW_none, errW_some] <;> rfl), by repeat (first | (with_reducible first | exact HB.out | apply below_alloc | apply pw_below_drewN | apply below_drew1) | exact HB.out)⟩
      · replace c5 := Bool.eq_false_iff.mpr c5
        subst c5
        have H1 : (impl_Break.l0 kj1 l0 (l0.length : Int) 0 l0 (l0.length : Int) 0) = some (r1, r2) := by rw [if_neg (show ¬ (false = true) by decide)] at H; exact H
        clear H
        have H := H1
        clear H1
        have H' := Aside0.mk H
        clear H
        go_wp2
        go_loopg [5, 24] kj1 (fun kq v5 v24 w' => ∃ (x5_2 : Int) (x24_2 : Int), v5 = .int .i64 x5_2 ∧ v24 = .int .i64 x24_2 ∧ Aside0 (impl_Break.l0 kq l0 (l0.length : Int) x5_2 l0 (l0.length : Int) x24_2 = some (r1, r2)) ∧ Aside0 (kq ≤ kj1) ∧ Aside0 (Below w.heap.size w w'))
        case atStart => exact ⟨(0), (0), (by first | rfl | (simp; done) | (simp [*]; done)), (by first | rfl | (simp; done) | (simp [*]; done)), H', ⟨Nat.le_refl _⟩, ⟨by repeat (first | (with_reducible first | exact HB.out | apply below_alloc | apply pw_below_drewN | apply below_drew1) | exact HB.out)⟩⟩
        case round =>
          clear H'
          try clear c1
          try clear p2
          try clear c3
          try clear c4
          try clear c5
          try clear p2
          obtain ⟨x5_2, x24_2, rfl, rfl, HA, HK2, HB⟩ := hrel
          cases gk with
          | zero => exact absurd HA.out (by simp [impl_Break.l0])
          | succ k2 =>
            have H := HA.out
            clear HA
            simp only [impl_Break.l0] at H
            by_cases c6 : x24_2 < (l0.length : Int)
            · rw [if_pos c6] at H
              have c6b0 : decide (x24_2 < (l0.length : Int)) = true := decide_eq_true c6
              clear c6
              by_cases c7 : 0 ≤ x24_2
              · rw [if_pos c7] at H
                have c7b0 : decide (0 ≤ x24_2) = true := decide_eq_true c7
                clear c7
                by_cases c8 : x24_2 < (l0.length : Int)
                · rw [if_pos c8] at H
                  have c8b0 : decide (x24_2 < (l0.length : Int)) = true := decide_eq_true c8
                  clear c8
                  have H' := Aside0.mk H
                  clear H
                  have p210 : 0 ≤ (x24_2 : Int) := of_decide_eq_true (by first | (with_reducible assumption) | assumption)
                  have q210 : x24_2 < (l0.length : Int) := of_decide_eq_true (by first | (with_reducible assumption) | assumption)
                  obtain ⟨ad210, e210, hx210_0⟩ := Kd.at_int HR0.out x24_2 p210 q210
                  cases e210
                  replace hx210_0 := (HB.out.cell (World.block_lt_of_cell? w _ hx210_0)).trans hx210_0
                  replace p210 := eq_true p210
                  replace q210 := eq_true q210
                  go_wp2
                  go_roundg k2
                  case measure => have := HJ1.out; have := HK2.out; omega
                  case rel => exact ⟨(wrap64 (x5_2 + (rd l0 x24_2))), (wrap64 (x24_2 + 1)), (by first | rfl | (simp; done) | (simp [*]; done)), (by first | rfl | (simp; done) | (simp [*]; done)), H', ⟨by have := HJ1.out; have := HK2.out; omega⟩, ⟨by repeat (first | (with_reducible first | exact HB.out | apply below_alloc | apply pw_below_drewN | apply below_drew1) | exact HB.out)⟩⟩
                · rw [if_neg c8] at H
                  exact absurd H (by simp)
              · rw [if_neg c7] at H
                exact absurd H (by simp)
            · rw [if_neg c6] at H
              have c6b0 : decide (x24_2 < (l0.length : Int)) = false := decide_eq_false c6
              clear c6
              have H' := Aside0.mk H
              clear H
              go_wp2
              go_loopg [8, 9, 10, 11] k2 (fun kq v8 v9 v10 v11 w' => ∃ (x8_3 : Int) (x9_3 : Int) (x10_3 : Int) (x11_3 : Int), v8 = .int .i64 x8_3 ∧ v9 = .int .i64 x9_3 ∧ v10 = .int .i64 x10_3 ∧ v11 = .int .i64 x11_3 ∧ Aside0 (impl_Break.l1 kq l0 (l0.length : Int) x5_2 x8_3 x9_3 x10_3 x11_3 = some (r1, r2)) ∧ Aside0 (kq ≤ k2) ∧ Aside0 (Below w.heap.size w w'))
              case atStart => exact ⟨(0), (0), ((-1)), (1), (by first | rfl | (simp; done) | (simp [*]; done)), (by first | rfl | (simp; done) | (simp [*]; done)), (by first | rfl | (simp; done) | (simp [*]; done)), (by first | rfl | (simp; done) | (simp [*]; done)), H', ⟨Nat.le_refl _⟩, ⟨by repeat (first | (with_reducible first | exact HB.out | apply below_alloc | apply pw_below_drewN | apply below_drew1) | exact HB.out)⟩⟩
              case round =>
                clear H'
                try clear c1
                try clear p2
                try clear q2
                try clear hx2
                try clear c3
                try clear c4
                try clear c5
                try clear c6
                try clear c6b0
                try clear p6
                try clear c7
                try clear c7b0
                try clear c8
                try clear c8b0
                try clear hx210_0
                try clear p2
                try clear p210
                try clear q210
                obtain ⟨x8_3, x9_3, x10_3, x11_3, rfl, rfl, rfl, rfl, HA, HK3, HB⟩ := hrel
                cases gk with
                | zero => exact absurd HA.out (by simp [impl_Break.l1])
                | succ k3 =>
                  have H := HA.out
                  clear HA
                  simp only [impl_Break.l1] at H
                  by_cases c9 : x11_3 < (l0.length : Int)
                  · rw [if_pos c9] at H
                    have c9b0 : decide (x11_3 < (l0.length : Int)) = true := decide_eq_true c9
                    clear c9
                    obtain ⟨ji10, hji10⟩ : ∃ j_ : Int, (wrap64 (x11_3 - 1)) = j_ := ⟨_, rfl⟩
                    replace H : (if 0 ≤ (ji10) then (if (ji10) < (l0.length : Int) then ((impl_away.f (wrap64 ((l0.length : Int) * (wrap64 (x8_3 + (rd l0 (ji10)))))) (wrap64 (x11_3 * x5_2))).bind fun t212 => (if t212 > x10_3 then (impl_Break.l1 k3 l0 (l0.length : Int) x5_2 (wrap64 (x8_3 + (rd l0 (ji10)))) x11_3 t212 (wrap64 (x11_3 + 1))) else (impl_Break.l1 k3 l0 (l0.length : Int) x5_2 (wrap64 (x8_3 + (rd l0 (ji10)))) x9_3 x10_3 (wrap64 (x11_3 + 1))))) else (none)) else (none)) = some (r1, r2) := by first | (rw [hji10] at H; exact H) | (simp only [hji10] at H ⊢; exact H)
                    have hji10w : (IntKind.i64.wrap (x11_3 - 1)) = ji10 := (i64_w _).trans hji10
                    by_cases c11 : 0 ≤ (ji10)
                    · rw [if_pos c11] at H
                      have c11b0 : decide (0 ≤ (ji10)) = true := decide_eq_true c11
                      clear c11
                      by_cases c12 : (ji10) < (l0.length : Int)
                      · rw [if_pos c12] at H
                        have c12b0 : decide ((ji10) < (l0.length : Int)) = true := decide_eq_true c12
                        clear c12
                        replace H := Option.bind_eq_some_iff.mp H
                        obtain ⟨t212, A130, H⟩ := H
                        replace H : (if t212 > x10_3 then (impl_Break.l1 k3 l0 (l0.length : Int) x5_2 (wrap64 (x8_3 + (rd l0 (ji10)))) x11_3 t212 (wrap64 (x11_3 + 1))) else (impl_Break.l1 k3 l0 (l0.length : Int) x5_2 (wrap64 (x8_3 + (rd l0 (ji10)))) x9_3 x10_3 (wrap64 (x11_3 + 1)))) = some (r1, r2) := H
                        have A13 := Aside0.mk A130
                        clear A130
                        by_cases c14 : t212 > x10_3
                        · rw [if_pos c14] at H
                          have c14b0 : decide (x10_3 < t212) = true := decide_eq_true c14
                          clear c14
                          have H' := Aside0.mk H
                          clear H
                          have p211 : 0 ≤ ((ji10) : Int) := of_decide_eq_true (by first | (with_reducible assumption) | assumption)
                          have q211 : (ji10) < (l0.length : Int) := of_decide_eq_true (by first | (with_reducible assumption) | assumption)
                          obtain ⟨ad211, e211, hx211_0⟩ := Kd.at_int HR0.out (ji10) p211 q211
                          cases e211
                          replace hx211_0 := (HB.out.cell (World.block_lt_of_cell? w _ hx211_0)).trans hx211_0
                          replace p211 := eq_true p211
                          replace q211 := eq_true q211
                          go_wp2_with (first | ((with_reducible refine gate_callee (f := 35) rfl ?_); refine goesL_ (some 50) rfl rfl Try.func35 (by kernel_rfl) rfl #[.int .i64 (wrap64 ((l0.length : Int) * (wrap64 (x8_3 + (rd l0 (ji10)))))), .int .i64 (wrap64 (x11_3 * x5_2))] rfl (by (try simp only [List.map_toArray, List.map_cons, List.map_nil]); first | done | (simp only [hji10]; rfl) | rfl | (simp only [List.length_drop, List.length_take]; rfl)) ?_; (with_reducible refine (impl_away.calls (wrap64 ((l0.length : Int) * (wrap64 (x8_3 + (rd l0 (ji10)))))) (wrap64 (x11_3 * x5_2)) t212 _ A13.out).mono ?_); rintro e w15 ⟨rfl, hb⟩; refine ⟨_, rfl, ?_⟩; have n0_ := Aside0.mk (below_step (by repeat (first | (with_reducible first | exact HB.out | apply below_alloc | apply pw_below_drewN | apply below_drew1) | exact HB.out)) hb); clear HB; have HB := n0_; clear n0_; (try clear hb); (try clear hb2); (try clear hk); (try clear hi)))
                          go_roundg k3
                          case measure => have := HJ1.out; have := HK2.out; have := HK3.out; omega
                          case rel => exact ⟨(wrap64 (x8_3 + (rd l0 (ji10)))), (x11_3), (t212), (wrap64 (x11_3 + 1)), (by first | rfl | (simp; done) | (simp only [← hji10] <;> (first | rfl | simp)) | (simp [*]; done)), (by first | rfl | (simp; done) | (simp [*]; done)), (by first | rfl | (simp; done) | (simp [*]; done)), (by first | rfl | (simp; done) | (simp [*]; done)), H', ⟨by have := HJ1.out; have := HK2.out; have := HK3.out; omega⟩, ⟨by repeat (first | (with_reducible first | exact HB.out | apply below_alloc | apply pw_below_drewN | apply below_drew1) | exact HB.out)⟩⟩
                        · rw [if_neg c14] at H
                          have c14b0 : decide (x10_3 < t212) = false := decide_eq_false c14
                          clear c14
                          have H' := Aside0.mk H
                          clear H
                          have p211 : 0 ≤ ((ji10) : Int) := of_decide_eq_true (by first | (with_reducible assumption) | assumption)
                          have q211 : (ji10) < (l0.length : Int) := of_decide_eq_true (by first | (with_reducible assumption) | assumption)
                          obtain ⟨ad211, e211, hx211_0⟩ := Kd.at_int HR0.out (ji10) p211 q211
                          cases e211
                          replace hx211_0 := (HB.out.cell (World.block_lt_of_cell? w _ hx211_0)).trans hx211_0
                          replace p211 := eq_true p211
                          replace q211 := eq_true q211
                          go_wp2_with (first | ((with_reducible refine gate_callee (f := 35) rfl ?_); refine goesL_ (some 50) rfl rfl Try.func35 (by kernel_rfl) rfl #[.int .i64 (wrap64 ((l0.length : Int) * (wrap64 (x8_3 + (rd l0 (ji10)))))), .int .i64 (wrap64 (x11_3 * x5_2))] rfl (by (try simp only [List.map_toArray, List.map_cons, List.map_nil]); first | done | (simp only [hji10]; rfl) | rfl | (simp only [List.length_drop, List.length_take]; rfl)) ?_; (with_reducible refine (impl_away.calls (wrap64 ((l0.length : Int) * (wrap64 (x8_3 + (rd l0 (ji10)))))) (wrap64 (x11_3 * x5_2)) t212 _ A13.out).mono ?_); rintro e w16 ⟨rfl, hb⟩; refine ⟨_, rfl, ?_⟩; have n0_ := Aside0.mk (below_step (by repeat (first | (with_reducible first | exact HB.out | apply below_alloc | apply pw_below_drewN | apply below_drew1) | exact HB.out)) hb); clear HB; have HB := n0_; clear n0_; (try clear hb); (try clear hb2); (try clear hk); (try clear hi)))
                          go_roundg k3
                          case measure => have := HJ1.out; have := HK2.out; have := HK3.out; omega
                          case rel => exact ⟨(wrap64 (x8_3 + (rd l0 (ji10)))), (x9_3), (x10_3), (wrap64 (x11_3 + 1)), (by first | rfl | (simp; done) | (simp only [← hji10] <;> (first | rfl | simp)) | (simp [*]; done)), (by first | rfl | (simp; done) | (simp [*]; done)), (by first | rfl | (simp; done) | (simp [*]; done)), (by first | rfl | (simp; done) | (simp [*]; done)), H', ⟨by have := HJ1.out; have := HK2.out; have := HK3.out; omega⟩, ⟨by repeat (first | (with_reducible first | exact HB.out | apply below_alloc | apply pw_below_drewN | apply below_drew1) | exact HB.out)⟩⟩
                      · rw [if_neg c12] at H
                        exact absurd H (by simp)
                    · rw [if_neg c11] at H
                      exact absurd H (by simp)
                  · rw [if_neg c9] at H
                    have c9b0 : decide (x11_3 < (l0.length : Int)) = false := decide_eq_false c9
                    clear c9
                    simp only [Option.some.injEq, Prod.mk.injEq] at H
                    obtain ⟨rfl, rfl⟩ := H
                    go_wp2
                    go_ret2
                    exact ⟨by first | rfl | (simp [errW_none, errW_some] <;> rfl) | (simp [*, errW_none, errW_some] <;> rfl), by repeat (first | (with_reducible first | exact HB.out | apply below_alloc | apply pw_below_drewN | apply below_drew1) | exact HB.out)⟩


/-! ### slices_Clone_int64_int64: function 33 -/
def slices_Clone_int64_int64.f (l0 : List Int) : Option (List Int) := if l0.length < 17592186044416 then some l0 else none
set_option maxHeartbeats 8000000 in
set_option maxRecDepth 100000 in
theorem slices_Clone_int64_int64.calls (A0 : Option Addr) (c0 : Nat) (l0 : List Int) (r : List Int) (w : World) (hr0 : Kd.C (Kd.int .i64) w A0 l0.length l0) (hc0 : l0.length ≤ c0) (h : slices_Clone_int64_int64.f l0 = some r) :
    Calls Try.prog 33 #[.slice A0 l0.length c0] w fun e w' => ∃ v0_ : Value, e = .returned (v0_) ∧ Kd.R (Kd.int .i64) 2 w' w.heap.size (fun _ => True) v0_ r ∧ Below w.heap.size w w' := by
  unfold slices_Clone_int64_int64.f at h
  by_cases c4 : l0.length < 17592186044416
  · rw [if_pos c4] at h
    obtain rfl := Option.some.inj h
    clear h
    have LM := Aside0.mk c4
    clear c4
    have HR0 := Aside0.mk hr0
    have HC0 := Aside0.mk hc0
    clear hr0 hc0
    have HB := Aside0.mk (Below.refl w.heap.size w)
    have hq : ∀ (W : World) (a : Option Addr) (m c : Nat), (binOp .eql 24 (.slice a m c) (.slice none 0 0)).run Try.prog W = .ok (.bool a.isNone) W := fun W a m c => Lib.run_eql_slice_nil W 24 2 a m c 0 0 Try.underlying24
    cases A0 with
    | none =>
      have hl : l0 = [] := by
        rcases Nat.eq_zero_or_pos l0.length with h | h
        · exact List.eq_nil_of_length_eq_zero h
        · obtain ⟨ad, e, _⟩ := HR0.out.2.2 h
          cases e
      subst hl
      clear HR0 HC0 LM
      go_enter Try.func33, Try.ntmps33
      go_wp2
      go_ret
      exact ⟨_, rfl, Kd.R_nil _ _ _ _ _, by repeat (first | (with_reducible first | exact HB.out | apply below_alloc | apply pw_below_drewN | apply below_drew1) | exact HB.out)⟩
    | some a0 =>
      obtain ⟨y1, hy1⟩ : ∃ y_ : List Int, y_ = ([] : List Int) := ⟨_, rfl⟩
      obtain ⟨y2, hy2⟩ : ∃ y_ : List Int, y_ = y1 ++ l0 := ⟨_, rfl⟩
      have e2 : y2 = l0 := by rw [hy2, hy1]; rfl
      have LM2 : Aside0 (y1.length + l0.length < 17592186044416) := Aside0.mk (by rw [hy1]; simpa using LM.out)
      have Ny1 := Aside0.mk hy1
      have Ny2 := Aside0.mk hy2
      have Ne2 := Aside0.mk e2
      clear hy1 hy2 e2
      have hg : Calls Try.prog 33 #[.slice (some a0) l0.length c0] w (fun e w' => ∃ v0_ : Value, e = .returned (v0_) ∧ Kd.R (Kd.int .i64) 2 w' w.heap.size (fun _ => True) v0_ y2 ∧ Below w.heap.size w w') := by
        go_enter Try.func33, Try.ntmps33
        go_wp2_with (first | ((with_reducible refine gate_dst (N := 5) rfl ?_); refine Kd.R_lit (Kd.int .i64) _ 2 ?hg (N := 5) ?hd (xs := ([] : List Int)) (inner := []) (ok := fun _ => True) (okp := fun _ => True) ?hr ?hp (fun _ hk => hk) trivial (Below.refl _ _) (Nat.le_refl _) (by simp) ?_; (case hd => rfl); (case hg => rfl); (case hr => first | (go_simp; done) | (go_simp; rfl)); (case hp => exact (Reps.none _ _)); intro v1 w8 ho9 hb hg_ hnew_; clear hg_ hnew_; rw [← Ny1.out] at ho9; have n0_ := Aside0.mk (Kd.R_lower ho9 (below_size (by repeat (first | (with_reducible first | exact HB.out | apply below_alloc | apply pw_below_drewN | apply below_drew1) | exact HB.out)))); have n1_ := Aside0.mk (below_step (by repeat (first | (with_reducible first | exact HB.out | apply below_alloc | apply pw_below_drewN | apply below_drew1) | exact HB.out)) hb); clear HB; have HO1 := n0_; have HB := n1_; clear n0_ n1_; clear hb ho9) | ((with_reducible refine gate_builtin (b := .append) (xs := #[.tmp 5, .tmp 6]) rfl ?_); at_builtin; refine Kd.R_append_rows (Kd.int .i64) (w0 := w) w.heap.size rfl (.tmp 5) (.tmp 6) 24 2 (.int .i64 0) 8 rfl Try.underlying24 info2 rfl (by decide) (by omega) v1 y1 l0 _ _ _ (fun _ => True) (fun _ => False) rfl rfl ?aO ?aR (fun _ _ h => h) (fun _ h => h.elim) ?aF ?aB ?aS ?aL ?_; (case aR => repeat (first | exact (Kd.C_below HR0.out HB.out) | (with_reducible refine Kd.C_alloc ?_ _) | (with_reducible refine Kd.C_drewN ?_ _) | (with_reducible refine Kd.C_drew ?_))); (case aB => exact (by repeat (first | (with_reducible first | exact HB.out | apply below_alloc | apply pw_below_drewN | apply below_drew1) | exact HB.out))); (case aF => exact (fun _ _ => trivial)); (case aO => exact (by (with_reducible repeat (first | apply Kd.R_alloc | apply Kd.R_drewN | apply Kd.R_drew)); exact HO1.out)); (case aS => exact (below_size (by repeat (first | (with_reducible first | exact HB.out | apply below_alloc | apply pw_below_drewN | apply below_drew1) | exact HB.out)))); (case aL => have := LM2.out; omega); intro v2 w10 ho hb hg hat; rw [← Ny2.out] at ho; have n0_ := Aside0.mk (hb); have n1_ := Aside0.mk (ho); clear HB; clear HO1; have HB := n0_; have HO2 := n1_; clear n0_ n1_; clear ho hb hg hat; obtain ⟨Ao11, co11, eo11⟩ := Kd.R_slice HO2.out; subst eo11))
        go_ret
        exact ⟨_, rfl, by (with_reducible repeat (first | apply Kd.R_alloc | apply Kd.R_drewN | apply Kd.R_drew)); exact HO2.out, by repeat (first | (with_reducible first | exact HB.out | apply below_alloc | apply pw_below_drewN | apply below_drew1) | exact HB.out)⟩
      exact hg.mono fun e w' ⟨v, h1, h2, h3⟩ => ⟨v, h1, by rw [← Ne2.out]; exact h2, h3⟩
  · rw [if_neg c4] at h
    exact absurd h (by simp)

/-! ### impl_Homogen: function 11 -/
mutual
def impl_Homogen.l0 : Nat → List Int → Int → Int → Int → Int → List Int → Int → Int → Option (List Int × Int)
  | 0, _, _, _, _, _, _, _, _ => none
  | k + 1, x4, x5, x6, x8, x9, x29, x30, x31 => if x31 < x30 then (if 0 ≤ x31 then (if x31 < (x29.length : Int) then (if x31 < x6 then (impl_Homogen.l0 k x4 x5 x6 (wrap64 (x8 + (rd x29 x31))) x9 x29 x30 (wrap64 (x31 + 1))) else (impl_Homogen.l0 k x4 x5 x6 x8 (wrap64 (x9 + (rd x29 x31))) x29 x30 (wrap64 (x31 + 1)))) else (none)) else (none)) else (if (wrap64 (x6 * (wrap64 (x5 - x6)))) = 0 then (none) else (impl_Homogen.l1 k x4 x6 (wrap64 (Int.tdiv (wrap64 ((wrap64 (x9 * x6)) - (wrap64 (x8 * (wrap64 (x5 - x6)))))) (wrap64 (x6 * (wrap64 (x5 - x6)))))) 0))
def impl_Homogen.l1 : Nat → List Int → Int → Int → Int → Option (List Int × Int)
  | 0, _, _, _, _ => none
  | k + 1, x4, x6, x12, x13 => if x13 < x6 then (if 0 ≤ x13 then (if x13 < (x4.length : Int) then ((some (x4.set (x13 : Int).toNat (wrap64 ((rd x4 x13) + x12)) : List Int)).bind fun y221 => ((impl_in.f (rd y221 x13) (-100000) 100000).bind fun t223 => (if t223 = true then (impl_Homogen.l1 k y221 x6 x12 (wrap64 (x13 + 1))) else (some (([] : List Int), 0))))) else (none)) else (none)) else (some (x4, x12))
end
def impl_Homogen.f (k : Nat) (l0 : List Int) : Option (List Int × Int) := (impl_seriesOk.f k l0).bind fun t213 => (if t213 = true then ((slices_Clone_int64_int64.f l0).bind fun t214 => (if (l0.length : Int) = 1 then (some (t214, 0)) else ((impl_Break.f k l0).bind fun bt217 => (impl_Homogen.l0 k t214 (l0.length : Int) bt217.1 0 0 l0 (l0.length : Int) 0)))) else (some (([] : List Int), 0)))
theorem impl_Homogen.mono_l : ∀ k, (∀ y0 y1 y2 y3 y4 y5 y6 y7, LeO (impl_Homogen.l0 k y0 y1 y2 y3 y4 y5 y6 y7) (impl_Homogen.l0 (k + 1) y0 y1 y2 y3 y4 y5 y6 y7)) ∧ (∀ y0 y1 y2 y3, LeO (impl_Homogen.l1 k y0 y1 y2 y3) (impl_Homogen.l1 (k + 1) y0 y1 y2 y3))
  | 0 => ⟨fun _ _ _ _ _ _ _ _ r h => by simp [impl_Homogen.l0] at h, fun _ _ _ _ r h => by simp [impl_Homogen.l1] at h⟩
  | k + 1 => by
    obtain ⟨ih0, ih1⟩ := impl_Homogen.mono_l k
    refine ⟨?_, ?_⟩
    · intro y0 y1 y2 y3 y4 y5 y6 y7
      unfold impl_Homogen.l0
      repeat' first
      | (with_reducible exact ih0 _ _ _ _ _ _ _ _)
      | (with_reducible exact ih1 _ _ _ _)
      | (with_reducible exact impl_Break.mono _ _)
      | (with_reducible exact impl_seriesOk.mono _ _)
      | (with_reducible exact LeO.refl _)
      | (with_reducible exact LeO.none _)
      | (with_reducible refine LeO.ite ?_ ?_)
      | (with_reducible refine LeO.bind ?_ (fun _ => ?_))
      | exact ih0 _ _ _ _ _ _ _ _
      | exact ih1 _ _ _ _
      | exact impl_Break.mono _ _
      | exact impl_seriesOk.mono _ _
      | exact LeO.none _
      | refine LeO.ite ?_ ?_
      | refine LeO.bind ?_ (fun _ => ?_)
    · intro y0 y1 y2 y3
      unfold impl_Homogen.l1
      repeat' first
      | (with_reducible exact ih0 _ _ _ _ _ _ _ _)
      | (with_reducible exact ih1 _ _ _ _)
      | (with_reducible exact impl_Break.mono _ _)
      | (with_reducible exact impl_seriesOk.mono _ _)
      | (with_reducible exact LeO.refl _)
      | (with_reducible exact LeO.none _)
      | (with_reducible refine LeO.ite ?_ ?_)
      | (with_reducible refine LeO.bind ?_ (fun _ => ?_))
      | exact ih0 _ _ _ _ _ _ _ _
      | exact ih1 _ _ _ _
      | exact impl_Break.mono _ _
      | exact impl_seriesOk.mono _ _
      | exact LeO.none _
      | refine LeO.ite ?_ ?_
      | refine LeO.bind ?_ (fun _ => ?_)
theorem impl_Homogen.mono : ∀ a0 k, LeO (impl_Homogen.f k a0) (impl_Homogen.f (k + 1) a0) := by
  intro a0 k
  obtain ⟨ih0, ih1⟩ := impl_Homogen.mono_l k
  unfold impl_Homogen.f
  repeat' first
      | (with_reducible exact ih0 _ _ _ _ _ _ _ _)
      | (with_reducible exact ih1 _ _ _ _)
      | (with_reducible exact impl_Break.mono _ _)
      | (with_reducible exact impl_seriesOk.mono _ _)
      | (with_reducible exact LeO.refl _)
      | (with_reducible exact LeO.none _)
      | (with_reducible refine LeO.ite ?_ ?_)
      | (with_reducible refine LeO.bind ?_ (fun _ => ?_))
      | exact ih0 _ _ _ _ _ _ _ _
      | exact ih1 _ _ _ _
      | exact impl_Break.mono _ _
      | exact impl_seriesOk.mono _ _
      | exact LeO.none _
      | refine LeO.ite ?_ ?_
      | refine LeO.bind ?_ (fun _ => ?_)
set_option maxHeartbeats 8000000 in
set_option maxRecDepth 100000 in
theorem impl_Homogen.calls (k : Nat) (A0 : Option Addr) (c0 : Nat) (l0 : List Int) (r1 : List Int) (r2 : Int) (w : World) (hr0 : Kd.C (Kd.int .i64) w A0 l0.length l0) (hc0 : l0.length ≤ c0) (h : impl_Homogen.f k l0 = some (r1, r2)) :
    Calls Try.prog 11 #[.slice A0 l0.length c0] w fun e w' => ∃ v0_ : Value, e = .returned (.tuple #[v0_, .int .i64 r2]) ∧ Kd.R (Kd.int .i64) 2 w' w.heap.size (fun _ => True) v0_ r1 ∧ Below w.heap.size w w' := by
  have HR0 := Aside0.mk hr0
  have HC0 := Aside0.mk hc0
  clear hr0 hc0
  have HB := Aside0.mk (Below.refl w.heap.size w)
  have H : ((impl_seriesOk.f k l0).bind fun t213 => (if t213 = true then ((slices_Clone_int64_int64.f l0).bind fun t214 => (if (l0.length : Int) = 1 then (some (t214, 0)) else ((impl_Break.f k l0).bind fun bt217 => (impl_Homogen.l0 k t214 (l0.length : Int) bt217.1 0 0 l0 (l0.length : Int) 0)))) else (some (([] : List Int), 0)))) = some (r1, r2) := h
  clear h
  replace H := Option.bind_eq_some_iff.mp H
  obtain ⟨t213, A20, H⟩ := H
  replace H : (if t213 = true then ((slices_Clone_int64_int64.f l0).bind fun t214 => (if (l0.length : Int) = 1 then (some (t214, 0)) else ((impl_Break.f k l0).bind fun bt217 => (impl_Homogen.l0 k t214 (l0.length : Int) bt217.1 0 0 l0 (l0.length : Int) 0)))) else (some (([] : List Int), 0))) = some (r1, r2) := H
  have A2 := Aside0.mk A20
  clear A20
  by_cases c3 : t213 = true
  · subst c3
    have H1 : ((slices_Clone_int64_int64.f l0).bind fun t214 => (if (l0.length : Int) = 1 then (some (t214, 0)) else ((impl_Break.f k l0).bind fun bt217 => (impl_Homogen.l0 k t214 (l0.length : Int) bt217.1 0 0 l0 (l0.length : Int) 0)))) = some (r1, r2) := by rw [if_pos rfl] at H; exact H
    clear H
    have H := H1
    clear H1
    replace H := Option.bind_eq_some_iff.mp H
    obtain ⟨t214, A40, H⟩ := H
    replace H : (if (l0.length : Int) = 1 then (some (t214, 0)) else ((impl_Break.f k l0).bind fun bt217 => (impl_Homogen.l0 k t214 (l0.length : Int) bt217.1 0 0 l0 (l0.length : Int) 0))) = some (r1, r2) := H
    have A4 := Aside0.mk A40
    clear A40
    by_cases c5 : (l0.length : Int) = 1
    · rw [if_pos c5] at H
      have c5b0 : ((l0.length : Int) == 1) = true := beq_iff_eq.mpr c5
      have c5b1 : ((l0.length : Int) != 1) = false := bne_eq_false_iff_eq.mpr c5
      clear c5
      simp only [Option.some.injEq, Prod.mk.injEq] at H
      obtain ⟨rfl, rfl⟩ := H
      go_enter Try.func11, Try.ntmps11
      go_wp2_with (first | ((with_reducible refine gate_callee (f := 32) rfl ?_); refine goesL_ (some 15) rfl rfl Try.func32 (by kernel_rfl) rfl #[.slice A0 l0.length c0] rfl (by (try simp only [List.map_toArray, List.map_cons, List.map_nil]); first | done | rfl | (simp only [List.length_drop, List.length_take]; rfl)) ?_; (with_reducible refine (impl_seriesOk.calls k _ _ l0 true _ ?side1 ?side2 A2.out).mono ?_); (case side1 => repeat (first | exact HR0.out | (with_reducible refine Kd.C_alloc ?_ _) | (with_reducible refine Kd.C_drewN ?_ _) | (with_reducible refine Kd.C_drew ?_))); (case side2 => exact HC0.out); rintro e w' ⟨rfl, ⟨nd, rfl⟩⟩; refine ⟨_, rfl, ?_⟩) | ((with_reducible refine gate_callee (f := 33) rfl ?_); refine goesL_ (some 18) rfl rfl Try.func33 (by kernel_rfl) rfl #[.slice A0 l0.length c0] rfl (by (try simp only [List.map_toArray, List.map_cons, List.map_nil]); first | done | rfl | (simp only [List.length_drop, List.length_take]; rfl)) ?_; (with_reducible refine (slices_Clone_int64_int64.calls _ _ l0 t214 _ ?side1 ?side2 A4.out).mono ?_); (case side1 => repeat (first | exact HR0.out | (with_reducible refine Kd.C_alloc ?_ _) | (with_reducible refine Kd.C_drewN ?_ _) | (with_reducible refine Kd.C_drew ?_))); (case side2 => exact HC0.out); rintro e w6 ⟨v215, rfl, ho0, hb⟩; refine ⟨_, rfl, ?_⟩; have n0_ := Aside0.mk (Kd.R_lower ho0 (below_size (by repeat (first | (with_reducible first | exact HB.out | apply below_alloc | apply pw_below_drewN | apply below_drew1) | exact HB.out)))); have n1_ := Aside0.mk (below_step (by repeat (first | (with_reducible first | exact HB.out | apply below_alloc | apply pw_below_drewN | apply below_drew1) | exact HB.out)) hb); clear HB; have HO216 := n0_; have HB := n1_; clear n0_ n1_; (try clear hb); (try clear hb2); (try clear hk); (try clear hi); (try clear ho0)))
      go_ret2
      exact ⟨_, by first | rfl | (simp [errW_none, errW_some] <;> rfl) | (simp [*, errW_none, errW_some] <;> rfl), by (with_reducible repeat (first | apply Kd.R_alloc | apply Kd.R_drewN | apply Kd.R_drew)); exact HO216.out, by repeat (first | (with_reducible first | exact HB.out | apply below_alloc | apply pw_below_drewN | apply below_drew1) | exact HB.out)⟩
    · rw [if_neg c5] at H
      have c5b0 : ((l0.length : Int) == 1) = false := beq_eq_false_iff_ne.mpr c5
      have c5b1 : ((l0.length : Int) != 1) = true := bne_iff_ne.mpr c5
      replace H := Option.bind_eq_some_iff.mp H
      obtain ⟨⟨t217, t218⟩, A70, H⟩ := H
      replace H : (impl_Homogen.l0 k t214 (l0.length : Int) t217 0 0 l0 (l0.length : Int) 0) = some (r1, r2) := H
      have A7 := Aside0.mk A70
      clear A70
      have H' := Aside0.mk H
      clear H
      go_enter Try.func11, Try.ntmps11
      go_wp2_with (first | ((with_reducible refine gate_callee (f := 32) rfl ?_); refine goesL_ (some 15) rfl rfl Try.func32 (by kernel_rfl) rfl #[.slice A0 l0.length c0] rfl (by (try simp only [List.map_toArray, List.map_cons, List.map_nil]); first | done | rfl | (simp only [List.length_drop, List.length_take]; rfl)) ?_; (with_reducible refine (impl_seriesOk.calls k _ _ l0 true _ ?side1 ?side2 A2.out).mono ?_); (case side1 => repeat (first | exact HR0.out | (with_reducible refine Kd.C_alloc ?_ _) | (with_reducible refine Kd.C_drewN ?_ _) | (with_reducible refine Kd.C_drew ?_))); (case side2 => exact HC0.out); rintro e w' ⟨rfl, ⟨nd, rfl⟩⟩; refine ⟨_, rfl, ?_⟩) | ((with_reducible refine gate_callee (f := 33) rfl ?_); refine goesL_ (some 18) rfl rfl Try.func33 (by kernel_rfl) rfl #[.slice A0 l0.length c0] rfl (by (try simp only [List.map_toArray, List.map_cons, List.map_nil]); first | done | rfl | (simp only [List.length_drop, List.length_take]; rfl)) ?_; (with_reducible refine (slices_Clone_int64_int64.calls _ _ l0 t214 _ ?side1 ?side2 A4.out).mono ?_); (case side1 => repeat (first | exact HR0.out | (with_reducible refine Kd.C_alloc ?_ _) | (with_reducible refine Kd.C_drewN ?_ _) | (with_reducible refine Kd.C_drew ?_))); (case side2 => exact HC0.out); rintro e w8 ⟨v215, rfl, ho0, hb⟩; refine ⟨_, rfl, ?_⟩; have n0_ := Aside0.mk (Kd.R_lower ho0 (below_size (by repeat (first | (with_reducible first | exact HB.out | apply below_alloc | apply pw_below_drewN | apply below_drew1) | exact HB.out)))); have n1_ := Aside0.mk (below_step (by repeat (first | (with_reducible first | exact HB.out | apply below_alloc | apply pw_below_drewN | apply below_drew1) | exact HB.out)) hb); clear HB; have HO216 := n0_; have HB := n1_; clear n0_ n1_; (try clear hb); (try clear hb2); (try clear hk); (try clear hi); (try clear ho0)) | ((with_reducible refine gate_callee (f := 13) rfl ?_); refine goesL_ (some 26) rfl rfl Try.func13 (by kernel_rfl) rfl #[.slice A0 l0.length c0] rfl (by (try simp only [List.map_toArray, List.map_cons, List.map_nil]); first | done | rfl | (simp only [List.length_drop, List.length_take]; rfl)) ?_; (with_reducible refine (impl_Break.calls k _ _ l0 t217 t218 _ ?side1 ?side2 A7.out).mono ?_); (case side1 => repeat (first | exact (Kd.C_below HR0.out HB.out) | (with_reducible refine Kd.C_alloc ?_ _) | (with_reducible refine Kd.C_drewN ?_ _) | (with_reducible refine Kd.C_drew ?_))); (case side2 => exact HC0.out); rintro e w9 ⟨rfl, hb⟩; refine ⟨_, rfl, ?_⟩; have n0_ := Aside0.mk (Kd.R_below (by (with_reducible repeat (first | apply Kd.R_alloc | apply Kd.R_drewN | apply Kd.R_drew)); exact HO216.out) hb); have n1_ := Aside0.mk (below_step (by repeat (first | (with_reducible first | exact HB.out | apply below_alloc | apply pw_below_drewN | apply below_drew1) | exact HB.out)) hb); clear HO216; clear HB; have HO216 := n0_; have HB := n1_; clear n0_ n1_; (try clear hb); (try clear hb2); (try clear hk); (try clear hi)))
      go_loopg [8, 9, 31] k (fun kq v8 v9 v31 w' => ∃ (x8_1 : Int) (x9_1 : Int) (x31_1 : Int), v8 = .int .i64 x8_1 ∧ v9 = .int .i64 x9_1 ∧ v31 = .int .i64 x31_1 ∧ Aside0 (impl_Homogen.l0 kq t214 (l0.length : Int) t217 x8_1 x9_1 l0 (l0.length : Int) x31_1 = some (r1, r2)) ∧ Aside0 (kq ≤ k) ∧ Aside0 (Kd.R (Kd.int .i64) 2 w' w.heap.size (fun _ => True) v215 t214) ∧ Aside0 (Below w.heap.size w w'))
      case atStart => exact ⟨(0), (0), (0), (by first | rfl | (simp; done) | (simp [*]; done)), (by first | rfl | (simp; done) | (simp [*]; done)), (by first | rfl | (simp; done) | (simp [*]; done)), H', ⟨Nat.le_refl _⟩, ⟨by (with_reducible repeat (first | apply Kd.R_alloc | apply Kd.R_drewN | apply Kd.R_drew)); exact HO216.out⟩, ⟨by repeat (first | (with_reducible first | exact HB.out | apply below_alloc | apply pw_below_drewN | apply below_drew1) | exact HB.out)⟩⟩
      case round =>
        clear H'
        try clear c1
        try clear p2
        try clear c3
        try clear c5
        try clear c5b0
        try clear c5b1
        obtain ⟨x8_1, x9_1, x31_1, rfl, rfl, rfl, HA, HK1, HO_4, HB⟩ := hrel
        cases gk with
        | zero => exact absurd HA.out (by simp [impl_Homogen.l0])
        | succ k1 =>
          have H := HA.out
          clear HA
          simp only [impl_Homogen.l0] at H
          by_cases c10 : x31_1 < (l0.length : Int)
          · rw [if_pos c10] at H
            have c10b0 : decide (x31_1 < (l0.length : Int)) = true := decide_eq_true c10
            clear c10
            by_cases c11 : 0 ≤ x31_1
            · rw [if_pos c11] at H
              have c11b0 : decide (0 ≤ x31_1) = true := decide_eq_true c11
              clear c11
              by_cases c12 : x31_1 < (l0.length : Int)
              · rw [if_pos c12] at H
                have c12b0 : decide (x31_1 < (l0.length : Int)) = true := decide_eq_true c12
                clear c12
                by_cases c13 : x31_1 < t217
                · rw [if_pos c13] at H
                  have c13b0 : decide (x31_1 < t217) = true := decide_eq_true c13
                  clear c13
                  have H' := Aside0.mk H
                  clear H
                  have p219 : 0 ≤ (x31_1 : Int) := of_decide_eq_true (by first | (with_reducible assumption) | assumption)
                  have q219 : x31_1 < (l0.length : Int) := of_decide_eq_true (by first | (with_reducible assumption) | assumption)
                  obtain ⟨ad219, e219, hx219_0⟩ := Kd.at_int HR0.out x31_1 p219 q219
                  cases e219
                  replace hx219_0 := (HB.out.cell (World.block_lt_of_cell? w _ hx219_0)).trans hx219_0
                  replace p219 := eq_true p219
                  replace q219 := eq_true q219
                  go_wp2
                  go_roundg k1
                  case measure => have := HK1.out; omega
                  case rel => exact ⟨(wrap64 (x8_1 + (rd l0 x31_1))), (x9_1), (wrap64 (x31_1 + 1)), (by first | rfl | (simp; done) | (simp [*]; done)), (by first | rfl | (simp; done) | (simp [*]; done)), (by first | rfl | (simp; done) | (simp [*]; done)), H', ⟨by have := HK1.out; omega⟩, ⟨by (with_reducible repeat (first | apply Kd.R_alloc | apply Kd.R_drewN | apply Kd.R_drew)); exact HO_4.out⟩, ⟨by repeat (first | (with_reducible first | exact HB.out | apply below_alloc | apply pw_below_drewN | apply below_drew1) | exact HB.out)⟩⟩
                · rw [if_neg c13] at H
                  have c13b0 : decide (x31_1 < t217) = false := decide_eq_false c13
                  clear c13
                  have H' := Aside0.mk H
                  clear H
                  have p219 : 0 ≤ (x31_1 : Int) := of_decide_eq_true (by first | (with_reducible assumption) | assumption)
                  have q219 : x31_1 < (l0.length : Int) := of_decide_eq_true (by first | (with_reducible assumption) | assumption)
                  obtain ⟨ad219, e219, hx219_0⟩ := Kd.at_int HR0.out x31_1 p219 q219
                  cases e219
                  replace hx219_0 := (HB.out.cell (World.block_lt_of_cell? w _ hx219_0)).trans hx219_0
                  replace p219 := eq_true p219
                  replace q219 := eq_true q219
                  go_wp2
                  go_roundg k1
                  case measure => have := HK1.out; omega
                  case rel => exact ⟨(x8_1), (wrap64 (x9_1 + (rd l0 x31_1))), (wrap64 (x31_1 + 1)), (by first | rfl | (simp; done) | (simp [*]; done)), (by first | rfl | (simp; done) | (simp [*]; done)), (by first | rfl | (simp; done) | (simp [*]; done)), H', ⟨by have := HK1.out; omega⟩, ⟨by (with_reducible repeat (first | apply Kd.R_alloc | apply Kd.R_drewN | apply Kd.R_drew)); exact HO_4.out⟩, ⟨by repeat (first | (with_reducible first | exact HB.out | apply below_alloc | apply pw_below_drewN | apply below_drew1) | exact HB.out)⟩⟩
              · rw [if_neg c12] at H
                exact absurd H (by simp)
            · rw [if_neg c11] at H
              exact absurd H (by simp)
          · rw [if_neg c10] at H
            have c10b0 : decide (x31_1 < (l0.length : Int)) = false := decide_eq_false c10
            clear c10
            by_cases c14 : (wrap64 (t217 * (wrap64 ((l0.length : Int) - t217)))) = 0
            · rw [if_pos c14] at H
              exact absurd H (by simp)
            · rw [if_neg c14] at H
              have c14b0 : ((wrap64 (t217 * (wrap64 ((l0.length : Int) - t217)))) == 0) = false := beq_eq_false_iff_ne.mpr c14
              have c14b1 : ((wrap64 (t217 * (wrap64 ((l0.length : Int) - t217)))) != 0) = true := bne_iff_ne.mpr c14
              have H' := Aside0.mk H
              clear H
              go_wp2
              go_loopg [13] k1 (fun kq v13 w' => ∃ (x4_2 : List Int) (x13_2 : Int), v13 = .int .i64 x13_2 ∧ Aside0 (impl_Homogen.l1 kq x4_2 t217 (wrap64 (Int.tdiv (wrap64 ((wrap64 (x9_1 * t217)) - (wrap64 (x8_1 * (wrap64 ((l0.length : Int) - t217)))))) (wrap64 (t217 * (wrap64 ((l0.length : Int) - t217)))))) x13_2 = some (r1, r2)) ∧ Aside0 (kq ≤ k1) ∧ Aside0 (Kd.R (Kd.int .i64) 2 w' w.heap.size (fun _ => True) v215 x4_2) ∧ Aside0 (Below w.heap.size w w'))
              case atStart => exact ⟨(t214), (0), (by first | rfl | (simp; done) | (simp [*]; done)), H', ⟨Nat.le_refl _⟩, ⟨by (with_reducible repeat (first | apply Kd.R_alloc | apply Kd.R_drewN | apply Kd.R_drew)); exact HO_4.out⟩, ⟨by repeat (first | (with_reducible first | exact HB.out | apply below_alloc | apply pw_below_drewN | apply below_drew1) | exact HB.out)⟩⟩
              case round =>
                clear H'
                try clear c1
                try clear p2
                try clear q2
                try clear hx2
                try clear c3
                try clear c5
                try clear c5b0
                try clear c5b1
                try clear p6
                try clear c10
                try clear c10b0
                try clear c11
                try clear c11b0
                try clear c12
                try clear c12b0
                try clear c13
                try clear c13b0
                try clear c14
                try clear c14b0
                try clear c14b1
                try clear hx219_0
                try clear p2
                try clear p219
                try clear q219
                obtain ⟨x4_2, x13_2, rfl, HA, HK2, HO_4, HB⟩ := hrel
                cases gk with
                | zero => exact absurd HA.out (by simp [impl_Homogen.l1])
                | succ k2 =>
                  have H := HA.out
                  clear HA
                  simp only [impl_Homogen.l1] at H
                  by_cases c15 : x13_2 < t217
                  · rw [if_pos c15] at H
                    have c15b0 : decide (x13_2 < t217) = true := decide_eq_true c15
                    clear c15
                    by_cases c16 : 0 ≤ x13_2
                    · rw [if_pos c16] at H
                      have c16b0 : decide (0 ≤ x13_2) = true := decide_eq_true c16
                      clear c16
                      by_cases c17 : x13_2 < (x4_2.length : Int)
                      · rw [if_pos c17] at H
                        have c17b0 : decide (x13_2 < (x4_2.length : Int)) = true := decide_eq_true c17
                        clear c17
                        obtain ⟨y221, hy221⟩ : ∃ y_ : List Int, y_ = (x4_2.set (x13_2 : Int).toNat (wrap64 ((rd x4_2 x13_2) + (wrap64 (Int.tdiv (wrap64 ((wrap64 (x9_1 * t217)) - (wrap64 (x8_1 * (wrap64 ((l0.length : Int) - t217)))))) (wrap64 (t217 * (wrap64 ((l0.length : Int) - t217))))))))) := ⟨_, rfl⟩
                        replace H : ((impl_in.f (rd y221 x13_2) (-100000) 100000).bind fun t223 => (if t223 = true then (impl_Homogen.l1 k2 y221 t217 (wrap64 (Int.tdiv (wrap64 ((wrap64 (x9_1 * t217)) - (wrap64 (x8_1 * (wrap64 ((l0.length : Int) - t217)))))) (wrap64 (t217 * (wrap64 ((l0.length : Int) - t217)))))) (wrap64 (x13_2 + 1))) else (some (([] : List Int), 0)))) = some (r1, r2) := by first | (rw [hy221]; with_reducible exact H) | (have H2_ := (Option.bind_some _ _).symm.trans H; rw [hy221]; with_reducible exact H2_) | (have H2_ := (Option.bind_some _ _).symm.trans H; with_reducible exact H2_) | with_reducible exact H | (rw [hy221]; exact H) | exact H
                        have Ny221 := Aside0.mk hy221
                        clear hy221
                        replace H := Option.bind_eq_some_iff.mp H
                        obtain ⟨t223, A190, H⟩ := H
                        replace H : (if t223 = true then (impl_Homogen.l1 k2 y221 t217 (wrap64 (Int.tdiv (wrap64 ((wrap64 (x9_1 * t217)) - (wrap64 (x8_1 * (wrap64 ((l0.length : Int) - t217)))))) (wrap64 (t217 * (wrap64 ((l0.length : Int) - t217)))))) (wrap64 (x13_2 + 1))) else (some (([] : List Int), 0))) = some (r1, r2) := H
                        have A19 := Aside0.mk A190
                        clear A190
                        by_cases c20 : t223 = true
                        · subst c20
                          have H1 : (impl_Homogen.l1 k2 y221 t217 (wrap64 (Int.tdiv (wrap64 ((wrap64 (x9_1 * t217)) - (wrap64 (x8_1 * (wrap64 ((l0.length : Int) - t217)))))) (wrap64 (t217 * (wrap64 ((l0.length : Int) - t217)))))) (wrap64 (x13_2 + 1))) = some (r1, r2) := by rw [if_pos rfl] at H; exact H
                          clear H
                          have H := H1
                          clear H1
                          have H' := Aside0.mk H
                          clear H
                          obtain ⟨Ao21, co21, eo21⟩ := Kd.R_slice HO_4.out
                          subst eo21
                          have p220 : 0 ≤ (x13_2 : Int) := of_decide_eq_true (by first | (with_reducible assumption) | assumption)
                          have q220 : x13_2 < (x4_2.length : Int) := of_decide_eq_true (by first | (with_reducible assumption) | assumption)
                          obtain ⟨ad220, e220, hx220_0⟩ := Kd.at_int (Kd.R_reads' HO_4.out).2.2 x13_2 p220 q220
                          cases e220
                          replace p220 := eq_true p220
                          replace q220 := eq_true q220
                          have p18 : 0 ≤ (x13_2 : Int) := of_decide_eq_true (by first | (with_reducible assumption) | assumption)
                          have q18 : (x13_2 : Int) < ((x4_2.length : Int) : Int) := of_decide_eq_true (by first | (with_reducible assumption) | assumption)
                          obtain ⟨go18, co18, eo18, gb18, gl18, cl18, HG18⟩ := Kd.R_form HO_4.out (by omega)
                          (first | cases eo18 | (injection eo18 with ea_ en_ ec_; (first | subst ea_ | (injection ea_ with ea_; subst ea_)); subst ec_; clear en_))
                          have GB18 := Aside0.mk gb18
                          have GG18 := Aside0.mk HG18
                          clear gb18 gl18 HG18
                          (first | simp only [add_plain] at hx220_0 | skip)
                          obtain ⟨hx18_0, hf18_0⟩ := Kd.R_celln 0 HO_4.out (x13_2 : Int) p18 q18
                          replace p18 := eq_true p18
                          replace q18 := eq_true q18
                          have HP22 := Kd.R_putg HO_4.out (x13_2 : Int) (wrap64 ((rd x4_2 x13_2) + (wrap64 (Int.tdiv (wrap64 ((wrap64 (x9_1 * t217)) - (wrap64 (x8_1 * (wrap64 ((l0.length : Int) - t217)))))) (wrap64 (t217 * (wrap64 ((l0.length : Int) - t217))))))))
                          go_wp2_with (first | ((with_reducible refine gate_store (t := 2) (p := 72) rfl ?_); refine store_event (t := 2) (p := 72) (v := ?vo_w23) (w1 := (wr.setCell ⟨go18, (x13_2 : Int).toNat, none⟩ (.int .i64 (wrap64 ((rd x4_2 x13_2) + (wrap64 (Int.tdiv (wrap64 ((wrap64 (x9_1 * t217)) - (wrap64 (x8_1 * (wrap64 ((l0.length : Int) - t217)))))) (wrap64 (t217 * (wrap64 ((l0.length : Int) - t217))))))))))) ?hg ?ho ?hn ?hr ?_; (case ho => rfl); (case hg => rfl); (case hn => rfl); (case hr => first | (go_simp; done) | (go_simp; rfl)); intro w23 hw; have hg : wr.grownBy w23 (some go18) := (by rw [hw]; exact HP22.2); have hp_ : Kd.R (Kd.int .i64) 2 w23 w.heap.size (fun _ => True) (.slice (some ⟨go18, 0, none⟩) x4_2.length co21) y221 := (by rw [hw, Ny221.out]; exact HP22.1); clear HP22; have n0_ := Aside0.mk (hp_); have n1_ := Aside0.mk ((by rw [hw]; exact below_set (HB.out) GB18.out : Below w.heap.size w w23)); clear HO_4; clear HB; have HO_4 := n0_; have HB := n1_; clear n0_ n1_; clear hg hw hp_; have p222 : 0 ≤ (x13_2 : Int) := of_decide_eq_true (by first | (with_reducible assumption) | assumption); have q222 : x13_2 < (y221.length : Int) := (by have h_ : (x13_2 : Int) < ((x4_2.length : Int) : Int) := of_decide_eq_true (by first | (with_reducible assumption) | assumption); first | (have e_ := (Kd.R_reads' HO_4.out).1; omega) | simpa only [Ny221.out, List.length_set] using h_); have ql222 : ((x13_2 : Int) < ((x4_2.length : Int) : Int)) = True := eq_true (of_decide_eq_true (by first | (with_reducible assumption) | assumption)); obtain ⟨ad222, e222, hx222_0⟩ := Kd.at_int (Kd.R_reads' HO_4.out).2.2 x13_2 p222 q222; obtain rfl : (⟨go18, 0, none⟩ : Addr) = ad222 := (by injection e222); (first | simp only [add_plain] at hx222_0 | simp only [add_at] at hx222_0 | simp only [Addr.add, Nat.zero_add] at hx222_0 | skip); replace p222 := eq_true p222; replace q222 := eq_true q222) | ((with_reducible refine gate_callee (f := 34) rfl ?_); refine goesL_ (some 77) rfl rfl Try.func34 (by kernel_rfl) rfl #[.int .i64 (rd y221 x13_2), .int .i64 (-100000), .int .i64 100000] rfl (by (try simp only [List.map_toArray, List.map_cons, List.map_nil]); first | done | rfl | (simp only [List.length_drop, List.length_take]; rfl)) ?_; (with_reducible refine (impl_in.calls (rd y221 x13_2) (-100000) 100000 true _ A19.out).mono ?_); rintro e w' ⟨rfl, ⟨nd, rfl⟩⟩; refine ⟨_, rfl, ?_⟩))
                          go_roundg k2
                          case measure => have := HK1.out; have := HK2.out; omega
                          case rel => exact ⟨(y221), (wrap64 (x13_2 + 1)), (by first | rfl | (simp; done) | (simp [*]; done)), H', ⟨by have := HK1.out; have := HK2.out; omega⟩, ⟨by (with_reducible repeat (first | apply Kd.R_alloc | apply Kd.R_drewN | apply Kd.R_drew)); exact HO_4.out⟩, ⟨by repeat (first | (with_reducible first | exact HB.out | apply below_alloc | apply pw_below_drewN | apply below_drew1) | exact HB.out)⟩⟩
                        · replace c20 := Bool.eq_false_iff.mpr c20
                          subst c20
                          have H1 : (some (([] : List Int), 0)) = some (r1, r2) := by rw [if_neg (show ¬ (false = true) by decide)] at H; exact H
                          clear H
                          have H := H1
                          clear H1
                          simp only [Option.some.injEq, Prod.mk.injEq] at H
                          obtain ⟨rfl, rfl⟩ := H
                          obtain ⟨Ao24, co24, eo24⟩ := Kd.R_slice HO_4.out
                          subst eo24
                          have p220 : 0 ≤ (x13_2 : Int) := of_decide_eq_true (by first | (with_reducible assumption) | assumption)
                          have q220 : x13_2 < (x4_2.length : Int) := of_decide_eq_true (by first | (with_reducible assumption) | assumption)
                          obtain ⟨ad220, e220, hx220_0⟩ := Kd.at_int (Kd.R_reads' HO_4.out).2.2 x13_2 p220 q220
                          cases e220
                          replace p220 := eq_true p220
                          replace q220 := eq_true q220
                          have p18 : 0 ≤ (x13_2 : Int) := of_decide_eq_true (by first | (with_reducible assumption) | assumption)
                          have q18 : (x13_2 : Int) < ((x4_2.length : Int) : Int) := of_decide_eq_true (by first | (with_reducible assumption) | assumption)
                          obtain ⟨go18, co18, eo18, gb18, gl18, cl18, HG18⟩ := Kd.R_form HO_4.out (by omega)
                          (first | cases eo18 | (injection eo18 with ea_ en_ ec_; (first | subst ea_ | (injection ea_ with ea_; subst ea_)); subst ec_; clear en_))
                          have GB18 := Aside0.mk gb18
                          have GG18 := Aside0.mk HG18
                          clear gb18 gl18 HG18
                          (first | simp only [add_plain] at hx220_0 | skip)
                          obtain ⟨hx18_0, hf18_0⟩ := Kd.R_celln 0 HO_4.out (x13_2 : Int) p18 q18
                          replace p18 := eq_true p18
                          replace q18 := eq_true q18
                          have HP25 := Kd.R_putg HO_4.out (x13_2 : Int) (wrap64 ((rd x4_2 x13_2) + (wrap64 (Int.tdiv (wrap64 ((wrap64 (x9_1 * t217)) - (wrap64 (x8_1 * (wrap64 ((l0.length : Int) - t217)))))) (wrap64 (t217 * (wrap64 ((l0.length : Int) - t217))))))))
                          go_wp2_with (first | ((with_reducible refine gate_store (t := 2) (p := 72) rfl ?_); refine store_event (t := 2) (p := 72) (v := ?vo_w26) (w1 := (wr.setCell ⟨go18, (x13_2 : Int).toNat, none⟩ (.int .i64 (wrap64 ((rd x4_2 x13_2) + (wrap64 (Int.tdiv (wrap64 ((wrap64 (x9_1 * t217)) - (wrap64 (x8_1 * (wrap64 ((l0.length : Int) - t217)))))) (wrap64 (t217 * (wrap64 ((l0.length : Int) - t217))))))))))) ?hg ?ho ?hn ?hr ?_; (case ho => rfl); (case hg => rfl); (case hn => rfl); (case hr => first | (go_simp; done) | (go_simp; rfl)); intro w26 hw; have hg : wr.grownBy w26 (some go18) := (by rw [hw]; exact HP25.2); have hp_ : Kd.R (Kd.int .i64) 2 w26 w.heap.size (fun _ => True) (.slice (some ⟨go18, 0, none⟩) x4_2.length co24) y221 := (by rw [hw, Ny221.out]; exact HP25.1); clear HP25; have n0_ := Aside0.mk (hp_); have n1_ := Aside0.mk ((by rw [hw]; exact below_set (HB.out) GB18.out : Below w.heap.size w w26)); clear HO_4; clear HB; have HO_4 := n0_; have HB := n1_; clear n0_ n1_; clear hg hw hp_; have p222 : 0 ≤ (x13_2 : Int) := of_decide_eq_true (by first | (with_reducible assumption) | assumption); have q222 : x13_2 < (y221.length : Int) := (by have h_ : (x13_2 : Int) < ((x4_2.length : Int) : Int) := of_decide_eq_true (by first | (with_reducible assumption) | assumption); first | (have e_ := (Kd.R_reads' HO_4.out).1; omega) | simpa only [Ny221.out, List.length_set] using h_); have ql222 : ((x13_2 : Int) < ((x4_2.length : Int) : Int)) = True := eq_true (of_decide_eq_true (by first | (with_reducible assumption) | assumption)); obtain ⟨ad222, e222, hx222_0⟩ := Kd.at_int (Kd.R_reads' HO_4.out).2.2 x13_2 p222 q222; obtain rfl : (⟨go18, 0, none⟩ : Addr) = ad222 := (by injection e222); (first | simp only [add_plain] at hx222_0 | simp only [add_at] at hx222_0 | simp only [Addr.add, Nat.zero_add] at hx222_0 | skip); replace p222 := eq_true p222; replace q222 := eq_true q222) | ((with_reducible refine gate_callee (f := 34) rfl ?_); refine goesL_ (some 77) rfl rfl Try.func34 (by kernel_rfl) rfl #[.int .i64 (rd y221 x13_2), .int .i64 (-100000), .int .i64 100000] rfl (by (try simp only [List.map_toArray, List.map_cons, List.map_nil]); first | done | rfl | (simp only [List.length_drop, List.length_take]; rfl)) ?_; (with_reducible refine (impl_in.calls (rd y221 x13_2) (-100000) 100000 false _ A19.out).mono ?_); rintro e w' ⟨rfl, ⟨nd, rfl⟩⟩; refine ⟨_, rfl, ?_⟩))
                          go_ret2
                          exact ⟨_, by first | rfl | (simp [errW_none, errW_some] <;> rfl) | (simp [*, errW_none, errW_some] <;> rfl), by first | exact Kd.R_nil _ _ _ _ _ | exact Kd.N_nil _ _ _ _ _ | exact Kd.V_nil _ _ _ _ _ | exact Kd.Q_nil _ _ _ _ _ | exact Kd.S_nil _ _ _ _ _, by repeat (first | (with_reducible first | exact HB.out | apply below_alloc | apply pw_below_drewN | apply below_drew1) | exact HB.out)⟩
                      · rw [if_neg c17] at H
                        exact absurd H (by simp)
                    · rw [if_neg c16] at H
                      exact absurd H (by simp)
                  · rw [if_neg c15] at H
                    have c15b0 : decide (x13_2 < t217) = false := decide_eq_false c15
                    clear c15
                    simp only [Option.some.injEq, Prod.mk.injEq] at H
                    obtain ⟨rfl, rfl⟩ := H
                    go_wp2
                    go_ret2
                    exact ⟨_, by first | rfl | (simp [errW_none, errW_some] <;> rfl) | (simp [*, errW_none, errW_some] <;> rfl), by (with_reducible repeat (first | apply Kd.R_alloc | apply Kd.R_drewN | apply Kd.R_drew)); exact HO_4.out, by repeat (first | (with_reducible first | exact HB.out | apply below_alloc | apply pw_below_drewN | apply below_drew1) | exact HB.out)⟩
  · replace c3 := Bool.eq_false_iff.mpr c3
    subst c3
    have H1 : (some (([] : List Int), 0)) = some (r1, r2) := by rw [if_neg (show ¬ (false = true) by decide)] at H; exact H
    clear H
    have H := H1
    clear H1
    simp only [Option.some.injEq, Prod.mk.injEq] at H
    obtain ⟨rfl, rfl⟩ := H
    go_enter Try.func11, Try.ntmps11
    go_wp2_with (first | ((with_reducible refine gate_callee (f := 32) rfl ?_); refine goesL_ (some 15) rfl rfl Try.func32 (by kernel_rfl) rfl #[.slice A0 l0.length c0] rfl (by (try simp only [List.map_toArray, List.map_cons, List.map_nil]); first | done | rfl | (simp only [List.length_drop, List.length_take]; rfl)) ?_; (with_reducible refine (impl_seriesOk.calls k _ _ l0 false _ ?side1 ?side2 A2.out).mono ?_); (case side1 => repeat (first | exact HR0.out | (with_reducible refine Kd.C_alloc ?_ _) | (with_reducible refine Kd.C_drewN ?_ _) | (with_reducible refine Kd.C_drew ?_))); (case side2 => exact HC0.out); rintro e w' ⟨rfl, ⟨nd, rfl⟩⟩; refine ⟨_, rfl, ?_⟩))
    go_ret2
    exact ⟨_, by first | rfl | (simp [errW_none, errW_some] <;> rfl) | (simp [*, errW_none, errW_some] <;> rfl), by first | exact Kd.R_nil _ _ _ _ _ | exact Kd.N_nil _ _ _ _ _ | exact Kd.V_nil _ _ _ _ _ | exact Kd.Q_nil _ _ _ _ _ | exact Kd.S_nil _ _ _ _ _, by repeat (first | (with_reducible first | exact HB.out | apply below_alloc | apply pw_below_drewN | apply below_drew1) | exact HB.out)⟩

end Go.Proofs.Ytmjfmhbklifafaa.QFnHomogen
