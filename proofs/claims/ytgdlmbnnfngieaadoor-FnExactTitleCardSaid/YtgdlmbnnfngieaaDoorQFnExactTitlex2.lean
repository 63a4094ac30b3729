-- Written by a program of this session out of the printer's texts and contracts of its own.
import Derived.Test.YtgdlmbnnfngieaaDoorQFnExactTitlex0
import Derived.Test.YtgdlmbnnfngieaaDoorQFnExactTitlex1
namespace Go.Proofs.YtgdlmbnnfngieaaDoor.QFnExactTitle
open Go.RowKit Go.Proofs.YtgdlmbnnfngieaaDoorW.PrintWords Go.Proofs.YtgdlmbnnfngieaaDoorW.PrintLast Go.Proofs.YtgdlmbnnfngieaaDoorW.PrintMore
attribute [local go_sem] max2_int min2_int max_two min_two max_three min_three max_four min_four   -- for this text's walks alone
set_option linter.unusedVariables false
set_option linter.unusedSimpArgs false

/-! ### spec_Title: function 8 -/
mutual
def spec_Title.j0 : Nat → ByteArray → Int → Bool → Option (ByteArray)
  | 0, _, _, _ => none
  | k + 1, x0, x1, x14 => if x14 = true then (some (⟨#[]⟩ : ByteArray)) else ((spec_l4Runes.f k x0).bind fun t117 => (if (t117.length : Int) > x1 then (if 0 ≤ x1 then (if x1 ≤ (t117.length : Int) then (spec_Title.j1 k (t117.take (x1 : Int).toNat) (⟨#[226, 128, 166]⟩ : ByteArray)) else (none)) else (none)) else (spec_Title.j1 k t117 (⟨#[]⟩ : ByteArray))))
def spec_Title.j1 : Nat → List ByteArray → ByteArray → Option (ByteArray)
  | 0, _, _ => none
  | k + 1, x5, x6 => spec_Title.l0 k x5 x6
def spec_Title.l0 : Nat → List ByteArray → ByteArray → Option (ByteArray)
  | 0, _, _ => none
  | k + 1, x5, x6 => if (x5.length : Int) > 0 then (if 0 ≤ (wrap64 ((x5.length : Int) - 1)) then (if (wrap64 ((x5.length : Int) - 1)) < (x5.length : Int) then (if (rdOf ByteArray.empty x5 (wrap64 ((x5.length : Int) - 1))).toList = ([32] : List UInt8) then (if (wrap64 ((x5.length : Int) - 1)) ≤ (x5.length : Int) then (spec_Title.l0 k (x5.take ((wrap64 ((x5.length : Int) - 1)) : Int).toNat) x6) else (none)) else ((spec_l4Joined.f k x5).bind fun t127 => (if t127.size + x6.size ≤ 9223372036854775807 then (some (t127 ++ x6)) else (none)))) else (none)) else (none)) else ((spec_l4Joined.f k x5).bind fun t128 => (if t128.size + x6.size ≤ 9223372036854775807 then (some (t128 ++ x6)) else (none)))
end
def spec_Title.f (k : Nat) (a0 : ByteArray) (a1 : Int) : Option (ByteArray) := (spec_l2In.f a1 1 1000).bind fun t116 => (if t116 = true then (spec_Title.j0 k a0 a1 (decide ((a0.size : Int) > 20000))) else (spec_Title.j0 k a0 a1 true))
theorem spec_Title.mono_l : ∀ k, (∀ y0 y1 y2, LeO (spec_Title.j0 k y0 y1 y2) (spec_Title.j0 (k + 1) y0 y1 y2)) ∧ (∀ y0 y1, LeO (spec_Title.j1 k y0 y1) (spec_Title.j1 (k + 1) y0 y1)) ∧ (∀ y0 y1, LeO (spec_Title.l0 k y0 y1) (spec_Title.l0 (k + 1) y0 y1))
  | 0 => ⟨fun _ _ _ r h => by simp [spec_Title.j0] at h, fun _ _ r h => by simp [spec_Title.j1] at h, fun _ _ r h => by simp [spec_Title.l0] at h⟩
  | k + 1 => by
    obtain ⟨ih0, ih1, ih2⟩ := spec_Title.mono_l k
    refine ⟨?_, ?_, ?_⟩
    · intro y0 y1 y2
      unfold spec_Title.j0
      repeat' first
      | (with_reducible exact ih0 _ _ _)
      | (with_reducible exact ih1 _ _)
      | (with_reducible exact ih2 _ _)
      | (with_reducible exact spec_l4Joined.mono _ _)
      | (with_reducible exact spec_l4Runes.mono _ _)
      | (with_reducible exact LeO.refl _)
      | (with_reducible exact LeO.none _)
      | (with_reducible refine LeO.ite ?_ ?_)
      | (with_reducible refine LeO.bind ?_ (fun _ => ?_))
      | exact ih0 _ _ _
      | exact ih1 _ _
      | exact ih2 _ _
      | exact spec_l4Joined.mono _ _
      | exact spec_l4Runes.mono _ _
      | exact LeO.none _
      | refine LeO.ite ?_ ?_
      | refine LeO.bind ?_ (fun _ => ?_)
    · intro y0 y1
      unfold spec_Title.j1
      repeat' first
      | (with_reducible exact ih0 _ _ _)
      | (with_reducible exact ih1 _ _)
      | (with_reducible exact ih2 _ _)
      | (with_reducible exact spec_l4Joined.mono _ _)
      | (with_reducible exact spec_l4Runes.mono _ _)
      | (with_reducible exact LeO.refl _)
      | (with_reducible exact LeO.none _)
      | (with_reducible refine LeO.ite ?_ ?_)
      | (with_reducible refine LeO.bind ?_ (fun _ => ?_))
      | exact ih0 _ _ _
      | exact ih1 _ _
      | exact ih2 _ _
      | exact spec_l4Joined.mono _ _
      | exact spec_l4Runes.mono _ _
      | exact LeO.none _
      | refine LeO.ite ?_ ?_
      | refine LeO.bind ?_ (fun _ => ?_)
    · intro y0 y1
      unfold spec_Title.l0
      repeat' first
      | (with_reducible exact ih0 _ _ _)
      | (with_reducible exact ih1 _ _)
      | (with_reducible exact ih2 _ _)
      | (with_reducible exact spec_l4Joined.mono _ _)
      | (with_reducible exact spec_l4Runes.mono _ _)
      | (with_reducible exact LeO.refl _)
      | (with_reducible exact LeO.none _)
      | (with_reducible refine LeO.ite ?_ ?_)
      | (with_reducible refine LeO.bind ?_ (fun _ => ?_))
      | exact ih0 _ _ _
      | exact ih1 _ _
      | exact ih2 _ _
      | exact spec_l4Joined.mono _ _
      | exact spec_l4Runes.mono _ _
      | exact LeO.none _
      | refine LeO.ite ?_ ?_
      | refine LeO.bind ?_ (fun _ => ?_)
theorem spec_Title.mono : ∀ a0 a1 k, LeO (spec_Title.f k a0 a1) (spec_Title.f (k + 1) a0 a1) := by
  intro a0 a1 k
  obtain ⟨ih0, ih1, ih2⟩ := spec_Title.mono_l k
  unfold spec_Title.f
  repeat' first
      | (with_reducible exact ih0 _ _ _)
      | (with_reducible exact ih1 _ _)
      | (with_reducible exact ih2 _ _)
      | (with_reducible exact spec_l4Joined.mono _ _)
      | (with_reducible exact spec_l4Runes.mono _ _)
      | (with_reducible exact LeO.refl _)
      | (with_reducible exact LeO.none _)
      | (with_reducible refine LeO.ite ?_ ?_)
      | (with_reducible refine LeO.bind ?_ (fun _ => ?_))
      | exact ih0 _ _ _
      | exact ih1 _ _
      | exact ih2 _ _
      | exact spec_l4Joined.mono _ _
      | exact spec_l4Runes.mono _ _
      | exact LeO.none _
      | refine LeO.ite ?_ ?_
      | refine LeO.bind ?_ (fun _ => ?_)
set_option maxHeartbeats 8000000 in
set_option maxRecDepth 100000 in
theorem spec_Title.calls (k : Nat) (a0 : ByteArray) (a1 : Int) (r : ByteArray) (w : World) (h : spec_Title.f k a0 a1 = some r) :
    Calls Tryd.prog 8 #[.string a0, .int .i64 a1] w fun e w' => e = .returned (.string r) ∧ Below w.heap.size w w' := by
  have HB := Aside0.mk (Below.refl w.heap.size w)
  have H : ((spec_l2In.f a1 1 1000).bind fun t116 => (if t116 = true then (spec_Title.j0 k a0 a1 (decide ((a0.size : Int) > 20000))) else (spec_Title.j0 k a0 a1 true))) = some r := h
  clear h
  have HC3 := Aside0.mk H
  clear H
  go_enter Tryd.func8, Tryd.ntmps8
  go_upto_region 1 with (fail)
  go_cut [14] (fun v14 wc => ∃ (kq : Nat) (x14_2 : Bool), v14 = .bool x14_2 ∧ Aside0 (spec_Title.j0 kq a0 a1 x14_2 = some r) ∧ Aside0 (kq ≤ k) ∧ Aside0 (Below w.heap.size w wc))
  case first =>
    have H := HC3.out
    clear HC3
    replace H := Option.bind_eq_some_iff.mp H
    obtain ⟨t116, A40, H⟩ := H
    replace H : (if t116 = true then (spec_Title.j0 k a0 a1 (decide ((a0.size : Int) > 20000))) else (spec_Title.j0 k a0 a1 true)) = some r := H
    have A4 := Aside0.mk A40
    clear A40
    by_cases c5 : t116 = true
    · subst c5
      have H1 : (spec_Title.j0 k a0 a1 (decide ((a0.size : Int) > 20000))) = some r := by rw [if_pos rfl] at H; exact H
      clear H
      have H := H1
      clear H1
      have H' := Aside0.mk H
      clear H
      go_wp2_with (first | ((with_reducible refine gate_callee (f := 11) rfl ?_); refine goesL_ (some 8) rfl rfl Tryd.func11 (by kernel_rfl) rfl #[.int .i64 a1, .int .i64 1, .int .i64 1000] rfl (by (try simp only [List.map_toArray, List.map_cons, List.map_nil]); first | done | rfl | (simp only [List.length_drop, List.length_take]; rfl)) ?_; (with_reducible refine (spec_l2In.calls a1 1 1000 true _ A4.out).mono ?_); rintro e w' ⟨rfl, ⟨nd, rfl⟩⟩; refine ⟨_, rfl, ?_⟩))
      go_meet
      case rel => exact ⟨_, (decide ((a0.size : Int) > 20000)), (by first | rfl | (simp; done) | (simp [*]; done)), H', ⟨by first | omega | exact Nat.le_refl _⟩, ⟨by repeat (first | (with_reducible first | exact HB.out | apply below_alloc | apply pw_below_drewN | apply below_drew1) | exact HB.out)⟩⟩
    · replace c5 := Bool.eq_false_iff.mpr c5
      subst c5
      have H1 : (spec_Title.j0 k a0 a1 true) = some r := by rw [if_neg (show ¬ (false = true) by decide)] at H; exact H
      clear H
      have H := H1
      clear H1
      have H' := Aside0.mk H
      clear H
      go_wp2_with (first | ((with_reducible refine gate_callee (f := 11) rfl ?_); refine goesL_ (some 8) rfl rfl Tryd.func11 (by kernel_rfl) rfl #[.int .i64 a1, .int .i64 1, .int .i64 1000] rfl (by (try simp only [List.map_toArray, List.map_cons, List.map_nil]); first | done | rfl | (simp only [List.length_drop, List.length_take]; rfl)) ?_; (with_reducible refine (spec_l2In.calls a1 1 1000 false _ A4.out).mono ?_); rintro e w' ⟨rfl, ⟨nd, rfl⟩⟩; refine ⟨_, rfl, ?_⟩))
      go_meet
      case rel => exact ⟨_, (true), (by first | rfl | (simp; done) | (simp [*]; done)), H', ⟨by first | omega | exact Nat.le_refl _⟩, ⟨by repeat (first | (with_reducible first | exact HB.out | apply below_alloc | apply pw_below_drewN | apply below_drew1) | exact HB.out)⟩⟩
  case rest =>
    clear HC3
    try clear c1
    try clear p2
    try clear c5
    obtain ⟨kq, x14_2, rfl, HA, HJ2, HB⟩ := hcut
    cases kq with
    | zero => exact absurd HA.out (by simp [spec_Title.j0])
    | succ kj2 =>
      have H := HA.out
      clear HA
      simp only [spec_Title.j0] at H
      by_cases c6 : x14_2 = true
      · subst c6
        have H1 : (some (⟨#[]⟩ : ByteArray)) = some r := by rw [if_pos rfl] at H; exact H
        clear H
        have H := H1
        clear H1
        obtain rfl := Option.some.inj H
        go_wp2
        go_ret
        exact ⟨by first | rfl | (simp [errW_none, errW_some] <;> rfl) | (simp [*, errW_none, errW_some] <;> rfl), by repeat (first | (with_reducible first | exact HB.out | apply below_alloc | apply pw_below_drewN | apply below_drew1) | exact HB.out)⟩
      · replace c6 := Bool.eq_false_iff.mpr c6
        subst c6
        have H1 : ((spec_l4Runes.f kj2 a0).bind fun t117 => (if (t117.length : Int) > a1 then (if 0 ≤ a1 then (if a1 ≤ (t117.length : Int) then (spec_Title.j1 kj2 (t117.take (a1 : Int).toNat) (⟨#[226, 128, 166]⟩ : ByteArray)) else (none)) else (none)) else (spec_Title.j1 kj2 t117 (⟨#[]⟩ : ByteArray)))) = some r := by rw [if_neg (show ¬ (false = true) by decide)] at H; exact H
        clear H
        have H := H1
        clear H1
        replace H := Option.bind_eq_some_iff.mp H
        obtain ⟨t117, A70, H⟩ := H
        replace H : (if (t117.length : Int) > a1 then (if 0 ≤ a1 then (if a1 ≤ (t117.length : Int) then (spec_Title.j1 kj2 (t117.take (a1 : Int).toNat) (⟨#[226, 128, 166]⟩ : ByteArray)) else (none)) else (none)) else (spec_Title.j1 kj2 t117 (⟨#[]⟩ : ByteArray))) = some r := H
        have A7 := Aside0.mk A70
        clear A70
        have HC8 := Aside0.mk H
        clear H
        go_upto_if 20 with (first | ((with_reducible refine gate_callee (f := 19) rfl ?_); refine goesL_ (some 16) rfl rfl Tryd.func19 (by kernel_rfl) rfl #[.string a0] rfl (by (try simp only [List.map_toArray, List.map_cons, List.map_nil]); first | done | rfl | (simp only [List.length_drop, List.length_take]; rfl)) ?_; (with_reducible refine (spec_l4Runes.calls kj2 a0 t117 _ A7.out).mono ?_); rintro e w9 ⟨v118, rfl, ho0, hb⟩; refine ⟨_, rfl, ?_⟩; have n0_ := Aside0.mk (Kd.R_lower ho0 (below_size (by repeat (first | (with_reducible first | exact HB.out | apply below_alloc | apply pw_below_drewN | apply below_drew1) | exact HB.out)))); have n1_ := Aside0.mk (below_step (by repeat (first | (with_reducible first | exact HB.out | apply below_alloc | apply pw_below_drewN | apply below_drew1) | exact HB.out)) hb); clear HB; have HO119 := n0_; have HB := n1_; clear n0_ n1_; (try clear hb); (try clear hb2); (try clear hk); (try clear hi); (try clear ho0); obtain ⟨Ao10, co10, eo10⟩ := Kd.R_slice HO119.out; subst eo10))
        (try simp only [Act.put, List.setIfInBounds_toArray, List.set_cons_zero, List.set_cons_succ])
        go_cut [5, 6] (fun v5 v6 wc => ∃ (kq : Nat) (x5_7 : List ByteArray) (x6_7 : ByteArray), v6 = .string x6_7 ∧ Aside0 (spec_Title.j1 kq x5_7 x6_7 = some r) ∧ Aside0 (kq ≤ kj2) ∧ Aside0 (Kd.R Kd.string 9 wc w.heap.size (fun _ => True) v5 x5_7) ∧ Aside0 (Below w.heap.size w wc))
        case first =>
          have H := HC8.out
          clear HC8
          by_cases c11 : (t117.length : Int) > a1
          · rw [if_pos c11] at H
            have c11b0 : decide (a1 < (t117.length : Int)) = true := decide_eq_true c11
            clear c11
            (first | rw [c11b0] | (simp only [i64_w, i32_w]; rw [c11b0]) | skip)
            by_cases c12 : 0 ≤ a1
            · rw [if_pos c12] at H
              have c12b0 := eq_true c12
              have c12b1 : decide (0 ≤ a1) = true := decide_eq_true c12
              clear c12
              by_cases c13 : a1 ≤ (t117.length : Int)
              · rw [if_pos c13] at H
                have c13b0 := eq_true c13
                have c13b1 : decide (a1 ≤ (t117.length : Int)) = true := decide_eq_true c13
                clear c13
                obtain ⟨y120, hy120⟩ : ∃ y_ : List ByteArray, y_ = (t117.take (a1 : Int).toNat) := ⟨_, rfl⟩
                replace H : (spec_Title.j1 kj2 y120 (⟨#[226, 128, 166]⟩ : ByteArray)) = some r := by first | (rw [hy120]; with_reducible exact H) | (have H2_ := (Option.bind_some _ _).symm.trans H; rw [hy120]; with_reducible exact H2_) | (have H2_ := (Option.bind_some _ _).symm.trans H; with_reducible exact H2_) | with_reducible exact H | (rw [hy120]; exact H) | exact H
                have Ny120 := Aside0.mk hy120
                clear hy120
                have H' := Aside0.mk H
                clear H
                have q14 : (a1 : Int) ≤ ((t117.length : Int) : Int) := of_decide_eq_true (by first | (with_reducible assumption) | assumption)
                obtain ⟨i014, hi014, _, hsz14, _⟩ := info_parts info9
                have hcut14 := cut_to (P := Tryd.prog) 39 9 .i64 Tryd.underlying39 hi014 Ao10 t117.length co10 a1 (of_decide_eq_true (by first | (with_reducible assumption) | assumption)) q14 (Kd.R_reads' HO119.out).2.1
                have hr14 := Kd.R_take (m := (a1 : Int).toNat) HO119.out (by omega)
                have hy14 : y120.length = (a1 : Int).toNat := (by rw [Ny120.out, List.length_take]; omega)
                rw [← Ny120.out] at hr14
                rw [← hy14] at hr14 hcut14
                clear hy14 hi014 hsz14 HO119
                have HO122 := Aside0.mk hr14
                clear hr14
                replace q14 := eq_true q14
                go_wp2
                go_meet
                case rel => exact ⟨_, (y120), ((⟨#[226, 128, 166]⟩ : ByteArray)), (by first | rfl | (simp; done) | (simp [*]; done)), H', ⟨by have := HJ2.out; first | omega | exact Nat.le_refl _⟩, ⟨by (with_reducible repeat (first | apply Kd.R_alloc | apply Kd.R_drewN | apply Kd.R_drew)); exact HO122.out⟩, ⟨by repeat (first | (with_reducible first | exact HB.out | apply below_alloc | apply pw_below_drewN | apply below_drew1) | exact HB.out)⟩⟩
              · rw [if_neg c13] at H
                exact absurd H (by simp)
            · rw [if_neg c12] at H
              exact absurd H (by simp)
          · rw [if_neg c11] at H
            have c11b0 : decide (a1 < (t117.length : Int)) = false := decide_eq_false c11
            clear c11
            (first | rw [c11b0] | (simp only [i64_w, i32_w]; rw [c11b0]) | skip)
            have H' := Aside0.mk H
            clear H
            go_wp2
            go_meet
            case rel => exact ⟨_, (t117), ((⟨#[]⟩ : ByteArray)), (by first | rfl | (simp; done) | (simp [*]; done)), H', ⟨by have := HJ2.out; first | omega | exact Nat.le_refl _⟩, ⟨by (with_reducible repeat (first | apply Kd.R_alloc | apply Kd.R_drewN | apply Kd.R_drew)); exact HO119.out⟩, ⟨by repeat (first | (with_reducible first | exact HB.out | apply below_alloc | apply pw_below_drewN | apply below_drew1) | exact HB.out)⟩⟩
        case rest =>
          clear HC8
          try clear c1
          try clear q1
          try clear p2
          try clear c5
          try clear c6
          try clear c8
          try clear c11
          try clear c11b0
          try clear c12
          try clear c12b0
          try clear c12b1
          try clear c13
          try clear c13b0
          try clear c13b1
          try clear q14
          try clear p2
          try clear q14
          obtain ⟨kq, x5_7, x6_7, rfl, HA, HJ7, HO_5, HB⟩ := hcut
          cases kq with
          | zero => exact absurd HA.out (by simp [spec_Title.j1])
          | succ kj7 =>
            have H := HA.out
            clear HA
            simp only [spec_Title.j1] at H
            have H' := Aside0.mk H
            clear H
            go_wp2
            go_loopg [5] kj7 (fun kq v5 w' => ∃ (x5_3 : List ByteArray), Aside0 (spec_Title.l0 kq x5_3 x6_7 = some r) ∧ Aside0 (kq ≤ kj7) ∧ Aside0 (Kd.R Kd.string 9 w' w.heap.size (fun _ => True) v5 x5_3) ∧ Aside0 (Below w.heap.size w w'))
            case atStart => exact ⟨(x5_7), H', ⟨Nat.le_refl _⟩, ⟨by (with_reducible repeat (first | apply Kd.R_alloc | apply Kd.R_drewN | apply Kd.R_drew)); exact HO_5.out⟩, ⟨by repeat (first | (with_reducible first | exact HB.out | apply below_alloc | apply pw_below_drewN | apply below_drew1) | exact HB.out)⟩⟩
            case round =>
              clear H'
              try clear c1
              try clear q1
              try clear p2
              try clear c5
              try clear c6
              try clear c8
              try clear c11
              try clear c11b0
              try clear c12
              try clear c12b0
              try clear c12b1
              try clear c13
              try clear c13b0
              try clear c13b1
              try clear q14
              try clear p2
              try clear q1
              try clear q14
              obtain ⟨x5_3, HA, HK3, HO_5, HB⟩ := hrel
              cases gk with
              | zero => exact absurd HA.out (by simp [spec_Title.l0])
              | succ k3 =>
                have H := HA.out
                clear HA
                simp only [spec_Title.l0] at H
                by_cases c15 : (x5_3.length : Int) > 0
                · rw [if_pos c15] at H
                  have c15b0 : decide (0 < (x5_3.length : Int)) = true := decide_eq_true c15
                  have c15b1 : decide (0 < x5_3.length) = true := decide_eq_true (by omega)
                  clear c15
                  obtain ⟨ji16, hji16⟩ : ∃ j_ : Int, (wrap64 ((x5_3.length : Int) - 1)) = j_ := ⟨_, rfl⟩
                  replace H : (if 0 ≤ (ji16) then (if (ji16) < (x5_3.length : Int) then (if (rdOf ByteArray.empty x5_3 (ji16)).toList = ([32] : List UInt8) then (if (ji16) ≤ (x5_3.length : Int) then (spec_Title.l0 k3 (x5_3.take ((ji16) : Int).toNat) x6_7) else (none)) else ((spec_l4Joined.f k3 x5_3).bind fun t127 => (if t127.size + x6_7.size ≤ 9223372036854775807 then (some (t127 ++ x6_7)) else (none)))) else (none)) else (none)) = some r := by first | (rw [hji16] at H; exact H) | (simp only [hji16] at H ⊢; exact H)
                  have hji16w : (IntKind.i64.wrap ((x5_3.length : Int) - 1)) = ji16 := (i64_w _).trans hji16
                  by_cases c17 : 0 ≤ (ji16)
                  · rw [if_pos c17] at H
                    have c17b0 : decide (0 ≤ (ji16)) = true := decide_eq_true c17
                    clear c17
                    by_cases c18 : (ji16) < (x5_3.length : Int)
                    · rw [if_pos c18] at H
                      have c18b0 : decide ((ji16) < (x5_3.length : Int)) = true := decide_eq_true c18
                      clear c18
                      by_cases c19 : (rdOf ByteArray.empty x5_3 (ji16)).toList = ([32] : List UInt8)
                      · rw [if_pos c19] at H
                        have c19b0 : ((rdOf ByteArray.empty x5_3 (ji16)).toList == ([32] : List UInt8)) = true := beq_iff_eq.mpr c19
                        have c19b1 : ((rdOf ByteArray.empty x5_3 (ji16)).toList != ([32] : List UInt8)) = false := bne_eq_false_iff_eq.mpr c19
                        clear c19
                        by_cases c20 : (ji16) ≤ (x5_3.length : Int)
                        · rw [if_pos c20] at H
                          have c20b0 := eq_true c20
                          have c20b1 : decide ((ji16) ≤ (x5_3.length : Int)) = true := decide_eq_true c20
                          clear c20
                          obtain ⟨y124, hy124⟩ : ∃ y_ : List ByteArray, y_ = (x5_3.take ((ji16) : Int).toNat) := ⟨_, rfl⟩
                          replace H : (spec_Title.l0 k3 y124 x6_7) = some r := by first | (rw [hy124]; with_reducible exact H) | (have H2_ := (Option.bind_some _ _).symm.trans H; rw [hy124]; with_reducible exact H2_) | (have H2_ := (Option.bind_some _ _).symm.trans H; with_reducible exact H2_) | with_reducible exact H | (rw [hy124]; exact H) | exact H
                          have Ny124 := Aside0.mk hy124
                          clear hy124
                          have H' := Aside0.mk H
                          clear H
                          obtain ⟨Ao21, co21, eo21⟩ := Kd.R_slice HO_5.out
                          subst eo21
                          have p123 : 0 ≤ ((ji16) : Int) := of_decide_eq_true (by first | (with_reducible assumption) | assumption)
                          have q123 : (ji16) < (x5_3.length : Int) := of_decide_eq_true (by first | (with_reducible assumption) | assumption)
                          obtain ⟨ad123, e123, hx123_0⟩ := Kd.at_string (Kd.R_reads' HO_5.out).2.2 (ji16) p123 q123
                          cases e123
                          replace p123 := eq_true p123
                          replace q123 := eq_true q123
                          have q22 : ((ji16) : Int) ≤ ((x5_3.length : Int) : Int) := of_decide_eq_true (by first | (with_reducible assumption) | assumption)
                          obtain ⟨i022, hi022, _, hsz22, _⟩ := info_parts info9
                          have hcut22 := cut_to (P := Tryd.prog) 39 9 .i64 Tryd.underlying39 hi022 (some ad123) x5_3.length co21 (ji16) (of_decide_eq_true (by first | (with_reducible assumption) | assumption)) q22 (Kd.R_reads' HO_5.out).2.1
                          have hr22 := Kd.R_take (m := ((ji16) : Int).toNat) HO_5.out (by omega)
                          have hy22 : y124.length = ((ji16) : Int).toNat := (by rw [Ny124.out, List.length_take]; omega)
                          rw [← Ny124.out] at hr22
                          rw [← hy22] at hr22 hcut22
                          clear hy22 hi022 hsz22 HO_5
                          have HO126 := Aside0.mk hr22
                          clear hr22
                          replace q22 := eq_true q22
                          go_wp2
                          go_roundg k3
                          case measure => have := HJ2.out; have := HJ7.out; have := HK3.out; omega
                          case rel => exact ⟨(y124), H', ⟨by have := HJ2.out; have := HJ7.out; have := HK3.out; omega⟩, ⟨by (with_reducible repeat (first | apply Kd.R_alloc | apply Kd.R_drewN | apply Kd.R_drew)); exact HO126.out⟩, ⟨by repeat (first | (with_reducible first | exact HB.out | apply below_alloc | apply pw_below_drewN | apply below_drew1) | exact HB.out)⟩⟩
                        · rw [if_neg c20] at H
                          exact absurd H (by simp)
                      · rw [if_neg c19] at H
                        have c19b0 : ((rdOf ByteArray.empty x5_3 (ji16)).toList == ([32] : List UInt8)) = false := beq_eq_false_iff_ne.mpr c19
                        have c19b1 : ((rdOf ByteArray.empty x5_3 (ji16)).toList != ([32] : List UInt8)) = true := bne_iff_ne.mpr c19
                        replace H := Option.bind_eq_some_iff.mp H
                        obtain ⟨t127, A230, H⟩ := H
                        replace H : (if t127.size + x6_7.size ≤ 9223372036854775807 then (some (t127 ++ x6_7)) else (none)) = some r := H
                        have A23 := Aside0.mk A230
                        clear A230
                        by_cases c24 : t127.size + x6_7.size ≤ 9223372036854775807
                        · rw [if_pos c24] at H
                          have c24b0 := eq_true c24
                          have c24b1 : decide (t127.size + x6_7.size ≤ 9223372036854775807) = true := decide_eq_true c24
                          try have c24b2 : (9223372036854775807 < t127.size + x6_7.size) = False := eq_false (Nat.not_lt.2 c24)
                          obtain rfl := Option.some.inj H
                          obtain ⟨Ao25, co25, eo25⟩ := Kd.R_slice HO_5.out
                          subst eo25
                          have p123 : 0 ≤ ((ji16) : Int) := of_decide_eq_true (by first | (with_reducible assumption) | assumption)
                          have q123 : (ji16) < (x5_3.length : Int) := of_decide_eq_true (by first | (with_reducible assumption) | assumption)
                          obtain ⟨ad123, e123, hx123_0⟩ := Kd.at_string (Kd.R_reads' HO_5.out).2.2 (ji16) p123 q123
                          cases e123
                          replace p123 := eq_true p123
                          replace q123 := eq_true q123
                          go_wp2_with (first | ((with_reducible refine gate_callee (f := 20) rfl ?_); refine goesL_ (some 42) rfl rfl Tryd.func20 (by kernel_rfl) rfl #[.slice (some ad123) x5_3.length co25] rfl (by (try simp only [List.map_toArray, List.map_cons, List.map_nil]); first | done | rfl | (simp only [List.length_drop, List.length_take]; rfl)) ?_; (with_reducible refine (spec_l4Joined.calls k3 _ _ x5_3 t127 _ ?side1 ?side2 A23.out).mono ?_); (case side1 => repeat (first | exact (Kd.R_reads' HO_5.out).2.2 | (with_reducible refine Kd.C_alloc ?_ _) | (with_reducible refine Kd.C_drewN ?_ _) | (with_reducible refine Kd.C_drew ?_))); (case side2 => exact (Kd.R_reads' HO_5.out).2.1); rintro e w26 ⟨rfl, hb⟩; refine ⟨_, rfl, ?_⟩; have n0_ := Aside0.mk (Kd.R_below (by (with_reducible repeat (first | apply Kd.R_alloc | apply Kd.R_drewN | apply Kd.R_drew)); exact HO_5.out) hb); have n1_ := Aside0.mk (below_step (by repeat (first | (with_reducible first | exact HB.out | apply below_alloc | apply pw_below_drewN | apply below_drew1) | exact HB.out)) hb); clear HO_5; clear HB; have HO_5 := n0_; have HB := n1_; clear n0_ n1_; (try clear hb); (try clear hb2); (try clear hk); (try clear hi)))
                          go_ret
                          exact ⟨by first | rfl | (simp [errW_none, errW_some] <;> rfl) | (simp only [← hji16]; first | rfl | (simp [errW_none, errW_some] <;> rfl)) | (simp [*, errW_none, errW_some] <;> rfl), by repeat (first | (with_reducible first | exact HB.out | apply below_alloc | apply pw_below_drewN | apply below_drew1) | exact HB.out)⟩
                        · rw [if_neg c24] at H
                          exact absurd H (by simp)
                    · rw [if_neg c18] at H
                      exact absurd H (by simp)
                  · rw [if_neg c17] at H
                    exact absurd H (by simp)
                · rw [if_neg c15] at H
                  have c15b0 : decide (0 < (x5_3.length : Int)) = false := decide_eq_false c15
                  have c15b1 : decide (0 < x5_3.length) = false := decide_eq_false (by omega)
                  clear c15
                  replace H := Option.bind_eq_some_iff.mp H
                  obtain ⟨t128, A270, H⟩ := H
                  replace H : (if t128.size + x6_7.size ≤ 9223372036854775807 then (some (t128 ++ x6_7)) else (none)) = some r := H
                  have A27 := Aside0.mk A270
                  clear A270
                  by_cases c28 : t128.size + x6_7.size ≤ 9223372036854775807
                  · rw [if_pos c28] at H
                    have c28b0 := eq_true c28
                    have c28b1 : decide (t128.size + x6_7.size ≤ 9223372036854775807) = true := decide_eq_true c28
                    try have c28b2 : (9223372036854775807 < t128.size + x6_7.size) = False := eq_false (Nat.not_lt.2 c28)
                    obtain rfl := Option.some.inj H
                    obtain ⟨Ao29, co29, eo29⟩ := Kd.R_slice HO_5.out
                    subst eo29
                    go_wp2_with (first | ((with_reducible refine gate_callee (f := 20) rfl ?_); refine goesL_ (some 42) rfl rfl Tryd.func20 (by kernel_rfl) rfl #[.slice Ao29 x5_3.length co29] rfl (by (try simp only [List.map_toArray, List.map_cons, List.map_nil]); first | done | rfl | (simp only [List.length_drop, List.length_take]; rfl)) ?_; (with_reducible refine (spec_l4Joined.calls k3 _ _ x5_3 t128 _ ?side1 ?side2 A27.out).mono ?_); (case side1 => repeat (first | exact (Kd.R_reads' HO_5.out).2.2 | (with_reducible refine Kd.C_alloc ?_ _) | (with_reducible refine Kd.C_drewN ?_ _) | (with_reducible refine Kd.C_drew ?_))); (case side2 => exact (Kd.R_reads' HO_5.out).2.1); rintro e w30 ⟨rfl, hb⟩; refine ⟨_, rfl, ?_⟩; have n0_ := Aside0.mk (Kd.R_below (by (with_reducible repeat (first | apply Kd.R_alloc | apply Kd.R_drewN | apply Kd.R_drew)); exact HO_5.out) hb); have n1_ := Aside0.mk (below_step (by repeat (first | (with_reducible first | exact HB.out | apply below_alloc | apply pw_below_drewN | apply below_drew1) | exact HB.out)) hb); clear HO_5; clear HB; have HO_5 := n0_; have HB := n1_; clear n0_ n1_; (try clear hb); (try clear hb2); (try clear hk); (try clear hi)))
                    go_ret
                    exact ⟨by first | rfl | (simp [errW_none, errW_some] <;> rfl) | (simp [*, errW_none, errW_some] <;> rfl), by repeat (first | (with_reducible first | exact HB.out | apply below_alloc | apply pw_below_drewN | apply below_drew1) | exact HB.out)⟩
                  · rw [if_neg c28] at H
                    exact absurd H (by simp)

/-! ### impl_in: function 15 -/
def impl_in.f (a0 : Int) (a1 : Int) (a2 : Int) : Option (Bool) := if a0 ≥ a1 then (some (decide (a0 ≤ a2))) else (some false)
set_option maxHeartbeats 8000000 in
set_option maxRecDepth 100000 in
theorem impl_in.calls (a0 : Int) (a1 : Int) (a2 : Int) (r : Bool) (w : World) (h : impl_in.f a0 a1 a2 = some r) :
    Calls Tryd.prog 15 #[.int .i64 a0, .int .i64 a1, .int .i64 a2] w fun e w' => e = .returned (.bool r) ∧ Drawn0 w w' := by
  have H : (if a0 ≥ a1 then (some (decide (a0 ≤ a2))) else (some false)) = some r := h
  clear h
  by_cases c4 : a0 ≥ a1
  · rw [if_pos c4] at H
    have c4b0 : decide (a1 ≤ a0) = true := decide_eq_true c4
    clear c4
    obtain rfl := Option.some.inj H
    go_enter Tryd.func15, Tryd.ntmps15
    go_wp2
    go_ret
    exact ⟨by first | rfl | (simp; done) | (simp [*]; done), by repeat (first | exact Drawn0.refl _ | apply Drawn0.step)⟩
  · rw [if_neg c4] at H
    have c4b0 : decide (a1 ≤ a0) = false := decide_eq_false c4
    clear c4
    obtain rfl := Option.some.inj H
    go_enter Tryd.func15, Tryd.ntmps15
    go_wp2
    go_ret
    exact ⟨by first | rfl | (simp; done) | (simp [*]; done), by repeat (first | exact Drawn0.refl _ | apply Drawn0.step)⟩


/-! ### utf8_DecodeRuneInString: function 28 -/
def utf8_DecodeRuneInString.f (a0 : ByteArray) : Option (Int × Int) := some (((Lib.decodeGo a0).1 : Int), ((Lib.decodeGo a0).2 : Int))
theorem u8_on {w w1 : World} (hT : Lib.Utf8Tabs 1 2 w) (hb : Below w.heap.size w w1) : Lib.Utf8Tabs 1 2 w1 :=
  ⟨fun c hc => (hb.cell (World.block_lt_of_cell? w _ (hT.1 c hc))).trans (hT.1 c hc), fun i hi => ⟨(hb.cell (World.block_lt_of_cell? w _ (hT.2 i hi).1)).trans (hT.2 i hi).1, (hb.cell (World.block_lt_of_cell? w _ (hT.2 i hi).2)).trans (hT.2 i hi).2⟩⟩
theorem utf8_DecodeRuneInString.calls (a0 : ByteArray) (r1 : Int) (r2 : Int) (w : World) (h : utf8_DecodeRuneInString.f a0 = some (r1, r2)) (hT : Lib.Utf8Tabs 1 2 w) :
    Calls Tryd.prog 28 #[.string a0] w fun e w' => e = .returned (.tuple #[.int .i32 r1, .int .i64 r2]) ∧ Below w.heap.size w w' := by
  unfold utf8_DecodeRuneInString.f at h
  simp only [Option.some.injEq, Prod.mk.injEq] at h
  obtain ⟨rfl, rfl⟩ := h
  exact Tryd.utf8_DecodeRuneInString a0 w hT

end Go.Proofs.YtgdlmbnnfngieaaDoor.QFnExactTitle
