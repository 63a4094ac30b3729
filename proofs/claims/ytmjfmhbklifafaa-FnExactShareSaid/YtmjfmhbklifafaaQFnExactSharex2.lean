-- Written by a program of this session out of the printer's texts and contracts of its own.
import Derived.Test.YtmjfmhbklifafaaQFnExactSharex0
import Derived.Test.YtmjfmhbklifafaaQFnExactSharex1
namespace Go.Proofs.Ytmjfmhbklifafaa.QFnExactShare
open Go.RowKit Go.Proofs.YtmjfmhbklifafaaW.PrintWords Go.Proofs.YtmjfmhbklifafaaW.PrintLast Go.Proofs.YtmjfmhbklifafaaW.PrintMore
attribute [local go_sem] max2_int min2_int max_two min_two max_three min_three max_four min_four   -- for this text's walks alone
set_option linter.unusedVariables false
set_option linter.unusedSimpArgs false

/-! ### impl_in: function 34 -/
def impl_in.f (a0 : Int) (a1 : Int) (a2 : Int) : Option (Bool) := if a0 ≥ a1 then (some (decide (a0 ≤ a2))) else (some false)
set_option maxHeartbeats 8000000 in
set_option maxRecDepth 100000 in
theorem impl_in.calls (a0 : Int) (a1 : Int) (a2 : Int) (r : Bool) (w : World) (h : impl_in.f a0 a1 a2 = some r) :
    Calls Try.prog 34 #[.int .i64 a0, .int .i64 a1, .int .i64 a2] w fun e w' => e = .returned (.bool r) ∧ Drawn0 w w' := by
  have H : (if a0 ≥ a1 then (some (decide (a0 ≤ a2))) else (some false)) = some r := h
  clear h
  by_cases c4 : a0 ≥ a1
  · rw [if_pos c4] at H
    have c4b0 : decide (a1 ≤ a0) = true := decide_eq_true c4
    clear c4
    obtain rfl := Option.some.inj H
    go_enter Try.func34, Try.ntmps34
    go_wp2
    go_ret
    exact ⟨by first | rfl | (simp; done) | (simp [*]; done), by repeat (first | exact Drawn0.refl _ | apply Drawn0.step)⟩
  · rw [if_neg c4] at H
    have c4b0 : decide (a1 ≤ a0) = false := decide_eq_false c4
    clear c4
    obtain rfl := Option.some.inj H
    go_enter Try.func34, Try.ntmps34
    go_wp2
    go_ret
    exact ⟨by first | rfl | (simp; done) | (simp [*]; done), by repeat (first | exact Drawn0.refl _ | apply Drawn0.step)⟩

/-! ### impl_each: function 40 -/
def impl_each.l0 : Nat → Int → Int → List Int → Int → Int → Option (Bool)
  | 0, _, _, _, _, _ => none
  | k + 1, x2, x3, x15, x16, x17 => if x17 < x16 then (if 0 ≤ x17 then (if x17 < (x15.length : Int) then ((impl_in.f (rd x15 x17) x2 x3).bind fun t120 => (if t120 = true then (impl_each.l0 k x2 x3 x15 x16 (wrap64 (x17 + 1))) else (some false))) else (none)) else (none)) else (some true)
def impl_each.f (k : Nat) (l0 : List Int) (a1 : Int) (a2 : Int) (a3 : Int) : Option (Bool) := if (l0.length : Int) = a1 then (impl_each.l0 k a2 a3 l0 (l0.length : Int) 0) else (some false)
theorem impl_each.mono_l : ∀ k, (∀ y0 y1 y2 y3 y4, LeO (impl_each.l0 k y0 y1 y2 y3 y4) (impl_each.l0 (k + 1) y0 y1 y2 y3 y4))
  | 0 => fun _ _ _ _ _ r h => by simp [impl_each.l0] at h
  | k + 1 => by
    have ih0 := impl_each.mono_l k
    · intro y0 y1 y2 y3 y4
      unfold impl_each.l0
      repeat' first
      | (with_reducible exact ih0 _ _ _ _ _)
      | (with_reducible exact LeO.refl _)
      | (with_reducible exact LeO.none _)
      | (with_reducible refine LeO.ite ?_ ?_)
      | (with_reducible refine LeO.bind ?_ (fun _ => ?_))
      | exact ih0 _ _ _ _ _
      | exact LeO.none _
      | refine LeO.ite ?_ ?_
      | refine LeO.bind ?_ (fun _ => ?_)
theorem impl_each.mono : ∀ a0 a1 a2 a3 k, LeO (impl_each.f k a0 a1 a2 a3) (impl_each.f (k + 1) a0 a1 a2 a3) := by
  intro a0 a1 a2 a3 k
  have ih0 := impl_each.mono_l k
  unfold impl_each.f
  repeat' first
      | (with_reducible exact ih0 _ _ _ _ _)
      | (with_reducible exact LeO.refl _)
      | (with_reducible exact LeO.none _)
      | (with_reducible refine LeO.ite ?_ ?_)
      | (with_reducible refine LeO.bind ?_ (fun _ => ?_))
      | exact ih0 _ _ _ _ _
      | exact LeO.none _
      | refine LeO.ite ?_ ?_
      | refine LeO.bind ?_ (fun _ => ?_)
set_option maxHeartbeats 8000000 in
set_option maxRecDepth 100000 in
theorem impl_each.calls (k : Nat) (A0 : Option Addr) (c0 : Nat) (l0 : List Int) (a1 : Int) (a2 : Int) (a3 : Int) (r : Bool) (w : World) (hr0 : Kd.C (Kd.int .i64) w A0 l0.length l0) (hc0 : l0.length ≤ c0) (h : impl_each.f k l0 a1 a2 a3 = some r) :
    Calls Try.prog 40 #[.slice A0 l0.length c0, .int .i64 a1, .int .i64 a2, .int .i64 a3] w fun e w' => e = .returned (.bool r) ∧ Drawn0 w w' := by
  have HR0 := Aside0.mk hr0
  have HC0 := Aside0.mk hc0
  clear hr0 hc0
  have H : (if (l0.length : Int) = a1 then (impl_each.l0 k a2 a3 l0 (l0.length : Int) 0) else (some false)) = some r := h
  clear h
  by_cases c5 : (l0.length : Int) = a1
  · rw [if_pos c5] at H
    have c5b0 : ((l0.length : Int) == a1) = true := beq_iff_eq.mpr c5
    have c5b1 : ((l0.length : Int) != a1) = false := bne_eq_false_iff_eq.mpr c5
    clear c5
    have H' := Aside0.mk H
    clear H
    go_enter Try.func40, Try.ntmps40
    go_wp2
    go_loopg [17] k (fun kq v17 w' => ∃ (x17_1 : Int), v17 = .int .i64 x17_1 ∧ Aside0 (impl_each.l0 kq a2 a3 l0 (l0.length : Int) x17_1 = some r) ∧ Aside0 (kq ≤ k) ∧ Drawn0 w w')
    case atStart => exact ⟨(0), (by first | rfl | (simp; done) | (simp [*]; done)), H', ⟨Nat.le_refl _⟩, by repeat (first | exact Drawn0.refl _ | apply Drawn0.step)⟩
    case round =>
      clear H'
      try clear p2
      try clear c4
      try clear c5
      try clear c5b0
      try clear c5b1
      obtain ⟨x17_1, rfl, HA, HK1, ⟨m1, rfl⟩⟩ := hrel
      cases gk with
      | zero => exact absurd HA.out (by simp [impl_each.l0])
      | succ k1 =>
        have H := HA.out
        clear HA
        simp only [impl_each.l0] at H
        by_cases c6 : x17_1 < (l0.length : Int)
        · rw [if_pos c6] at H
          have c6b0 : decide (x17_1 < (l0.length : Int)) = true := decide_eq_true c6
          clear c6
          by_cases c7 : 0 ≤ x17_1
          · rw [if_pos c7] at H
            have c7b0 : decide (0 ≤ x17_1) = true := decide_eq_true c7
            clear c7
            by_cases c8 : x17_1 < (l0.length : Int)
            · rw [if_pos c8] at H
              have c8b0 : decide (x17_1 < (l0.length : Int)) = true := decide_eq_true c8
              clear c8
              replace H := Option.bind_eq_some_iff.mp H
              obtain ⟨t120, A90, H⟩ := H
              replace H : (if t120 = true then (impl_each.l0 k1 a2 a3 l0 (l0.length : Int) (wrap64 (x17_1 + 1))) else (some false)) = some r := H
              have A9 := Aside0.mk A90
              clear A90
              by_cases c10 : t120 = true
              · subst c10
                have H1 : (impl_each.l0 k1 a2 a3 l0 (l0.length : Int) (wrap64 (x17_1 + 1))) = some r := by rw [if_pos rfl] at H; exact H
                clear H
                have H := H1
                clear H1
                have H' := Aside0.mk H
                clear H
                have p119 : 0 ≤ (x17_1 : Int) := of_decide_eq_true (by first | (with_reducible assumption) | assumption)
                have q119 : x17_1 < (l0.length : Int) := of_decide_eq_true (by first | (with_reducible assumption) | assumption)
                obtain ⟨ad119, e119, hx119_0⟩ := Kd.at_int HR0.out x17_1 p119 q119
                cases e119
                replace p119 := eq_true p119
                replace q119 := eq_true q119
                go_wp2_with (first | ((with_reducible refine gate_callee (f := 34) rfl ?_); refine goesL_ (some 24) rfl rfl Try.func34 (by kernel_rfl) rfl #[.int .i64 (rd l0 x17_1), .int .i64 a2, .int .i64 a3] rfl (by (try simp only [List.map_toArray, List.map_cons, List.map_nil]); first | done | rfl | (simp only [List.length_drop, List.length_take]; rfl)) ?_; (with_reducible refine (impl_in.calls (rd l0 x17_1) a2 a3 true _ A9.out).mono ?_); rintro e w' ⟨rfl, ⟨nd, rfl⟩⟩; refine ⟨_, rfl, ?_⟩))
                go_roundg k1
                case measure => have := HK1.out; omega
                case rel => exact ⟨(wrap64 (x17_1 + 1)), (by first | rfl | (simp; done) | (simp [*]; done)), H', ⟨by have := HK1.out; omega⟩, by repeat (first | exact Drawn0.refl _ | apply Drawn0.step)⟩
              · replace c10 := Bool.eq_false_iff.mpr c10
                subst c10
                have H1 : (some false) = some r := by rw [if_neg (show ¬ (false = true) by decide)] at H; exact H
                clear H
                have H := H1
                clear H1
                obtain rfl := Option.some.inj H
                have p119 : 0 ≤ (x17_1 : Int) := of_decide_eq_true (by first | (with_reducible assumption) | assumption)
                have q119 : x17_1 < (l0.length : Int) := of_decide_eq_true (by first | (with_reducible assumption) | assumption)
                obtain ⟨ad119, e119, hx119_0⟩ := Kd.at_int HR0.out x17_1 p119 q119
                cases e119
                replace p119 := eq_true p119
                replace q119 := eq_true q119
                go_wp2_with (first | ((with_reducible refine gate_callee (f := 34) rfl ?_); refine goesL_ (some 24) rfl rfl Try.func34 (by kernel_rfl) rfl #[.int .i64 (rd l0 x17_1), .int .i64 a2, .int .i64 a3] rfl (by (try simp only [List.map_toArray, List.map_cons, List.map_nil]); first | done | rfl | (simp only [List.length_drop, List.length_take]; rfl)) ?_; (with_reducible refine (impl_in.calls (rd l0 x17_1) a2 a3 false _ A9.out).mono ?_); rintro e w' ⟨rfl, ⟨nd, rfl⟩⟩; refine ⟨_, rfl, ?_⟩))
                go_ret
                exact ⟨by first | rfl | (simp; done) | (simp [*]; done), by repeat (first | exact Drawn0.refl _ | apply Drawn0.step)⟩
            · rw [if_neg c8] at H
              exact absurd H (by simp)
          · rw [if_neg c7] at H
            exact absurd H (by simp)
        · rw [if_neg c6] at H
          have c6b0 : decide (x17_1 < (l0.length : Int)) = false := decide_eq_false c6
          clear c6
          obtain rfl := Option.some.inj H
          go_wp2
          go_ret
          exact ⟨by first | rfl | (simp; done) | (simp [*]; done), by repeat (first | exact Drawn0.refl _ | apply Drawn0.step)⟩
  · rw [if_neg c5] at H
    have c5b0 : ((l0.length : Int) == a1) = false := beq_eq_false_iff_ne.mpr c5
    have c5b1 : ((l0.length : Int) != a1) = true := bne_iff_ne.mpr c5
    obtain rfl := Option.some.inj H
    go_enter Try.func40, Try.ntmps40
    go_wp2
    go_ret
    exact ⟨by first | rfl | (simp; done) | (simp [*]; done), by repeat (first | exact Drawn0.refl _ | apply Drawn0.step)⟩

/-! ### impl_seriesOk: function 32 -/
def impl_seriesOk.f (k : Nat) (l0 : List Int) : Option (Bool) := (impl_in.f (l0.length : Int) 1 500).bind fun t121 => (if t121 = true then ((impl_each.f k l0 (l0.length : Int) (-100000) 100000).bind fun t122 => (some t122)) else (some false))
theorem impl_seriesOk.mono : ∀ a0 k, LeO (impl_seriesOk.f k a0) (impl_seriesOk.f (k + 1) a0) := by
  intro a0 k
  unfold impl_seriesOk.f
  repeat' first
      | (with_reducible exact impl_each.mono _ _ _ _ _)
      | (with_reducible exact LeO.refl _)
      | (with_reducible exact LeO.none _)
      | (with_reducible refine LeO.ite ?_ ?_)
      | (with_reducible refine LeO.bind ?_ (fun _ => ?_))
      | exact impl_each.mono _ _ _ _ _
      | exact LeO.none _
      | refine LeO.ite ?_ ?_
      | refine LeO.bind ?_ (fun _ => ?_)
set_option maxHeartbeats 8000000 in
set_option maxRecDepth 100000 in
theorem impl_seriesOk.calls (k : Nat) (A0 : Option Addr) (c0 : Nat) (l0 : List Int) (r : Bool) (w : World) (hr0 : Kd.C (Kd.int .i64) w A0 l0.length l0) (hc0 : l0.length ≤ c0) (h : impl_seriesOk.f k l0 = some r) :
    Calls Try.prog 32 #[.slice A0 l0.length c0] w fun e w' => e = .returned (.bool r) ∧ Drawn0 w w' := by
  have HR0 := Aside0.mk hr0
  have HC0 := Aside0.mk hc0
  clear hr0 hc0
  have H : ((impl_in.f (l0.length : Int) 1 500).bind fun t121 => (if t121 = true then ((impl_each.f k l0 (l0.length : Int) (-100000) 100000).bind fun t122 => (some t122)) else (some false))) = some r := h
  clear h
  replace H := Option.bind_eq_some_iff.mp H
  obtain ⟨t121, A20, H⟩ := H
  replace H : (if t121 = true then ((impl_each.f k l0 (l0.length : Int) (-100000) 100000).bind fun t122 => (some t122)) else (some false)) = some r := H
  have A2 := Aside0.mk A20
  clear A20
  by_cases c3 : t121 = true
  · subst c3
    have H1 : ((impl_each.f k l0 (l0.length : Int) (-100000) 100000).bind fun t122 => (some t122)) = some r := by rw [if_pos rfl] at H; exact H
    clear H
    have H := H1
    clear H1
    replace H := Option.bind_eq_some_iff.mp H
    obtain ⟨t122, A40, H⟩ := H
    replace H : (some t122) = some r := H
    have A4 := Aside0.mk A40
    clear A40
    obtain rfl := Option.some.inj H
    go_enter Try.func32, Try.ntmps32
    go_wp2_with (first | ((with_reducible refine gate_callee (f := 34) rfl ?_); refine goesL_ (some 5) rfl rfl Try.func34 (by kernel_rfl) rfl #[.int .i64 (l0.length : Int), .int .i64 1, .int .i64 500] rfl (by (try simp only [List.map_toArray, List.map_cons, List.map_nil]); first | done | rfl | (simp only [List.length_drop, List.length_take]; rfl)) ?_; (with_reducible refine (impl_in.calls (l0.length : Int) 1 500 true _ A2.out).mono ?_); rintro e w' ⟨rfl, ⟨nd, rfl⟩⟩; refine ⟨_, rfl, ?_⟩) | (go_at_call 40; (with_reducible refine (impl_each.calls k _ _ l0 (l0.length : Int) (-100000) 100000 t122 _ ?side1 ?side2 A4.out).mono ?_); (case side1 => repeat (first | exact HR0.out | (with_reducible refine Kd.C_alloc ?_ _) | (with_reducible refine Kd.C_drewN ?_ _) | (with_reducible refine Kd.C_drew ?_))); (case side2 => exact HC0.out); rintro e w' ⟨rfl, ⟨nd, rfl⟩⟩))
    go_ret
    exact ⟨by first | rfl | (simp; done) | (simp [*]; done), by repeat (first | exact Drawn0.refl _ | apply Drawn0.step)⟩
  · replace c3 := Bool.eq_false_iff.mpr c3
    subst c3
    have H1 : (some false) = some r := by rw [if_neg (show ¬ (false = true) by decide)] at H; exact H
    clear H
    have H := H1
    clear H1
    obtain rfl := Option.some.inj H
    go_enter Try.func32, Try.ntmps32
    go_wp2_with (first | ((with_reducible refine gate_callee (f := 34) rfl ?_); refine goesL_ (some 5) rfl rfl Try.func34 (by kernel_rfl) rfl #[.int .i64 (l0.length : Int), .int .i64 1, .int .i64 500] rfl (by (try simp only [List.map_toArray, List.map_cons, List.map_nil]); first | done | rfl | (simp only [List.length_drop, List.length_take]; rfl)) ?_; (with_reducible refine (impl_in.calls (l0.length : Int) 1 500 false _ A2.out).mono ?_); rintro e w' ⟨rfl, ⟨nd, rfl⟩⟩; refine ⟨_, rfl, ?_⟩))
    go_ret
    exact ⟨by first | rfl | (simp; done) | (simp [*]; done), by repeat (first | exact Drawn0.refl _ | apply Drawn0.step)⟩


/-! ### srt_Clone: function 33 -/
def srt_Clone.f (l0 : List Int) : Option (List Int) := if l0.length < 17592186044416 then some l0 else none
set_option maxHeartbeats 8000000 in
set_option maxRecDepth 100000 in
theorem srt_Clone.calls (A0 : Option Addr) (c0 : Nat) (l0 : List Int) (r : List Int) (w : World) (hr0 : Kd.C (Kd.int .i64) w A0 l0.length l0) (hc0 : l0.length ≤ c0) (h : srt_Clone.f l0 = some r) :
    Calls Try.prog 33 #[.slice A0 l0.length c0] w fun e w' => ∃ v0_ : Value, e = .returned (v0_) ∧ Kd.R (Kd.int .i64) 2 w' w.heap.size (fun _ => True) v0_ r ∧ Below w.heap.size w w' := by
  unfold srt_Clone.f at h
  by_cases c4 : l0.length < 17592186044416
  · rw [if_pos c4] at h
    obtain rfl := Option.some.inj h
    clear h
    have LM := Aside0.mk c4
    clear c4
    have HR0 := Aside0.mk hr0
    have HC0 := Aside0.mk hc0
    clear hr0 hc0
    have HB := Aside0.mk (Below.refl w.heap.size w)
    have hq : ∀ (W : World) (a : Option Addr) (m c : Nat), (binOp .eql 24 (.slice a m c) (.slice none 0 0)).run Try.prog W = .ok (.bool a.isNone) W := fun W a m c => Lib.run_eql_slice_nil W 24 2 a m c 0 0 Try.underlying24
    cases A0 with
    | none =>
      have hl : l0 = [] := by
        rcases Nat.eq_zero_or_pos l0.length with h | h
        · exact List.eq_nil_of_length_eq_zero h
        · obtain ⟨ad, e, _⟩ := HR0.out.2.2 h
          cases e
      subst hl
      clear HR0 HC0 LM
      go_enter Try.func33, Try.ntmps33
      go_wp2
      go_ret
      exact ⟨_, rfl, Kd.R_nil _ _ _ _ _, by repeat (first | (with_reducible first | exact HB.out | apply below_alloc | apply pw_below_drewN | apply below_drew1) | exact HB.out)⟩
    | some a0 =>
      obtain ⟨y1, hy1⟩ : ∃ y_ : List Int, y_ = ([] : List Int) := ⟨_, rfl⟩
      obtain ⟨y2, hy2⟩ : ∃ y_ : List Int, y_ = y1 ++ l0 := ⟨_, rfl⟩
      have e2 : y2 = l0 := by rw [hy2, hy1]; rfl
      have LM2 : Aside0 (y1.length + l0.length < 17592186044416) := Aside0.mk (by rw [hy1]; simpa using LM.out)
      have Ny1 := Aside0.mk hy1
      have Ny2 := Aside0.mk hy2
      have Ne2 := Aside0.mk e2
      clear hy1 hy2 e2
      have hg : Calls Try.prog 33 #[.slice (some a0) l0.length c0] w (fun e w' => ∃ v0_ : Value, e = .returned (v0_) ∧ Kd.R (Kd.int .i64) 2 w' w.heap.size (fun _ => True) v0_ y2 ∧ Below w.heap.size w w') := by
        go_enter Try.func33, Try.ntmps33
        go_wp2_with (first | ((with_reducible refine gate_dst (N := 5) rfl ?_); refine Kd.R_lit (Kd.int .i64) _ 2 ?hg (N := 5) ?hd (xs := ([] : List Int)) (inner := []) (ok := fun _ => True) (okp := fun _ => True) ?hr ?hp (fun _ hk => hk) trivial (Below.refl _ _) (Nat.le_refl _) (by simp) ?_; (case hd => rfl); (case hg => rfl); (case hr => first | (go_simp; done) | (go_simp; rfl)); (case hp => exact (Reps.none _ _)); intro v1 w8 ho9 hb hg_ hnew_; clear hg_ hnew_; rw [← Ny1.out] at ho9; have n0_ := Aside0.mk (Kd.R_lower ho9 (below_size (by repeat (first | (with_reducible first | exact HB.out | apply below_alloc | apply pw_below_drewN | apply below_drew1) | exact HB.out)))); have n1_ := Aside0.mk (below_step (by repeat (first | (with_reducible first | exact HB.out | apply below_alloc | apply pw_below_drewN | apply below_drew1) | exact HB.out)) hb); clear HB; have HO1 := n0_; have HB := n1_; clear n0_ n1_; clear hb ho9) | ((with_reducible refine gate_builtin (b := .append) (xs := #[.tmp 5, .tmp 6]) rfl ?_); at_builtin; refine Kd.R_append_rows (Kd.int .i64) (w0 := w) w.heap.size rfl (.tmp 5) (.tmp 6) 24 2 (.int .i64 0) 8 rfl Try.underlying24 info2 rfl (by decide) (by omega) v1 y1 l0 _ _ _ (fun _ => True) (fun _ => False) rfl rfl ?aO ?aR (fun _ _ h => h) (fun _ h => h.elim) ?aF ?aB ?aS ?aL ?_; (case aR => repeat (first | exact (Kd.C_below HR0.out HB.out) | (with_reducible refine Kd.C_alloc ?_ _) | (with_reducible refine Kd.C_drewN ?_ _) | (with_reducible refine Kd.C_drew ?_))); (case aB => exact (by repeat (first | (with_reducible first | exact HB.out | apply below_alloc | apply pw_below_drewN | apply below_drew1) | exact HB.out))); (case aF => exact (fun _ _ => trivial)); (case aO => exact (by (with_reducible repeat (first | apply Kd.R_alloc | apply Kd.R_drewN | apply Kd.R_drew)); exact HO1.out)); (case aS => exact (below_size (by repeat (first | (with_reducible first | exact HB.out | apply below_alloc | apply pw_below_drewN | apply below_drew1) | exact HB.out)))); (case aL => have := LM2.out; omega); intro v2 w10 ho hb hg hat; rw [← Ny2.out] at ho; have n0_ := Aside0.mk (hb); have n1_ := Aside0.mk (ho); clear HB; clear HO1; have HB := n0_; have HO2 := n1_; clear n0_ n1_; clear ho hb hg hat; obtain ⟨Ao11, co11, eo11⟩ := Kd.R_slice HO2.out; subst eo11))
        go_ret
        exact ⟨_, rfl, by (with_reducible repeat (first | apply Kd.R_alloc | apply Kd.R_drewN | apply Kd.R_drew)); exact HO2.out, by repeat (first | (with_reducible first | exact HB.out | apply below_alloc | apply pw_below_drewN | apply below_drew1) | exact HB.out)⟩
      exact hg.mono fun e w' ⟨v, h1, h2, h3⟩ => ⟨v, h1, by rw [← Ne2.out]; exact h2, h3⟩
  · rw [if_neg c4] at h
    exact absurd h (by simp)

/-! ### impl_sorted: function 44 -/
def impl_sorted.f (l0 : List Int) : Option (List Int) := if l0.length < 17592186044416 then some (Go.Proofs.Ytmjfmhbklifafaa.Srt.ordI l0) else none
set_option maxHeartbeats 8000000 in
set_option maxRecDepth 100000 in
theorem impl_sorted.calls (A0 : Option Addr) (c0 : Nat) (l0 : List Int) (r : List Int) (w : World) (hr0 : Kd.C (Kd.int .i64) w A0 l0.length l0) (hc0 : l0.length ≤ c0) (h : impl_sorted.f l0 = some r) :
    Calls Try.prog 44 #[.slice A0 l0.length c0] w fun e w' => ∃ v0_ : Value, e = .returned (v0_) ∧ Kd.R (Kd.int .i64) 2 w' w.heap.size (fun _ => True) v0_ r ∧ Below w.heap.size w w' := by
  unfold impl_sorted.f at h
  by_cases c4 : l0.length < 17592186044416
  · rw [if_pos c4] at h
    obtain rfl := Option.some.inj h
    clear h
    have hcl : srt_Clone.f l0 = some l0 := by unfold srt_Clone.f; rw [if_pos c4]
    have HR0 := Aside0.mk hr0
    have HC0 := Aside0.mk hc0
    clear hr0 hc0
    go_enter Try.func44, Try.ntmps44
    go_wp2_with (first | ((with_reducible refine gate_callee (f := 33) rfl ?_); refine goesL_ (some 5) rfl rfl Try.func33 (by kernel_rfl) rfl #[.slice A0 l0.length c0] rfl (by (try simp only [List.map_toArray, List.map_cons, List.map_nil]); first | done | rfl) ?_; (with_reducible refine (srt_Clone.calls A0 c0 l0 l0 _ HR0.out HC0.out hcl).mono ?_); rintro e w5 ⟨v1, rfl, ho0, hb⟩; refine ⟨_, rfl, ?_⟩; obtain ⟨Ao, co, eo⟩ := Kd.R_slice ho0; subst eo; have HO := Aside0.mk ho0; have HB := Aside0.mk hb; clear ho0 hb) | ((with_reducible refine gate_callee (f := 48) rfl ?_); refine goesL_ (some 7) rfl rfl Try.func48 (by kernel_rfl) rfl #[.slice Ao l0.length co] rfl (by (try simp only [List.map_toArray, List.map_cons, List.map_nil]); first | done | rfl) ?_; (with_reducible refine (Go.Proofs.Ytmjfmhbklifafaa.Srt.sort_calls HO HB (Nat.le_refl _) (by omega)).mono ?_); rintro e w7 ⟨rfl, ho0, hb⟩; refine ⟨_, rfl, ?_⟩; rw [Go.Proofs.Ytmjfmhbklifafaa.Srt.ordI_len] at ho0; have HO2 := Aside0.mk ho0; have HB2 := Aside0.mk hb; clear ho0 hb))
    go_ret
    exact ⟨_, rfl, HO2.out, HB2.out⟩
  · rw [if_neg c4] at h
    exact absurd h (by simp)

/-! ### impl_Share: function 24 -/
def impl_Share.f (k : Nat) (l0 : List Int) (a1 : Int) (a2 : Int) : Option (Int × Bool) := (impl_seriesOk.f k l0).bind fun t123 => (if t123 = true then ((impl_in.f a2 1 1000).bind fun t124 => (if t124 = true then ((impl_in.f a1 1 a2).bind fun t125 => (if t125 = true then (if a2 = 0 then (none) else ((impl_sorted.f l0).bind fun t126 => (if 0 ≤ (wrap64 ((wrap64 (Int.tdiv (wrap64 ((wrap64 ((wrap64 (a1 * (l0.length : Int))) + a2)) - 1)) a2)) - 1)) then (if (wrap64 ((wrap64 (Int.tdiv (wrap64 ((wrap64 ((wrap64 (a1 * (l0.length : Int))) + a2)) - 1)) a2)) - 1)) < (t126.length : Int) then (some (rd t126 (wrap64 ((wrap64 (Int.tdiv (wrap64 ((wrap64 ((wrap64 (a1 * (l0.length : Int))) + a2)) - 1)) a2)) - 1)), true)) else (none)) else (none)))) else (some (0, false)))) else (some (0, false)))) else (some (0, false)))
theorem impl_Share.mono : ∀ a0 a1 a2 k, LeO (impl_Share.f k a0 a1 a2) (impl_Share.f (k + 1) a0 a1 a2) := by
  intro a0 a1 a2 k
  unfold impl_Share.f
  repeat' first
      | (with_reducible exact impl_seriesOk.mono _ _)
      | (with_reducible exact LeO.refl _)
      | (with_reducible exact LeO.none _)
      | (with_reducible refine LeO.ite ?_ ?_)
      | (with_reducible refine LeO.bind ?_ (fun _ => ?_))
      | exact impl_seriesOk.mono _ _
      | exact LeO.none _
      | refine LeO.ite ?_ ?_
      | refine LeO.bind ?_ (fun _ => ?_)
set_option maxHeartbeats 8000000 in
set_option maxRecDepth 100000 in
theorem impl_Share.calls (k : Nat) (A0 : Option Addr) (c0 : Nat) (l0 : List Int) (a1 : Int) (a2 : Int) (r1 : Int) (r2 : Bool) (w : World) (hr0 : Kd.C (Kd.int .i64) w A0 l0.length l0) (hc0 : l0.length ≤ c0) (h : impl_Share.f k l0 a1 a2 = some (r1, r2)) :
    Calls Try.prog 24 #[.slice A0 l0.length c0, .int .i64 a1, .int .i64 a2] w fun e w' => e = .returned (.tuple #[.int .i64 r1, .bool r2]) ∧ Below w.heap.size w w' := by
  have HR0 := Aside0.mk hr0
  have HC0 := Aside0.mk hc0
  clear hr0 hc0
  have HB := Aside0.mk (Below.refl w.heap.size w)
  have H : ((impl_seriesOk.f k l0).bind fun t123 => (if t123 = true then ((impl_in.f a2 1 1000).bind fun t124 => (if t124 = true then ((impl_in.f a1 1 a2).bind fun t125 => (if t125 = true then (if a2 = 0 then (none) else ((impl_sorted.f l0).bind fun t126 => (if 0 ≤ (wrap64 ((wrap64 (Int.tdiv (wrap64 ((wrap64 ((wrap64 (a1 * (l0.length : Int))) + a2)) - 1)) a2)) - 1)) then (if (wrap64 ((wrap64 (Int.tdiv (wrap64 ((wrap64 ((wrap64 (a1 * (l0.length : Int))) + a2)) - 1)) a2)) - 1)) < (t126.length : Int) then (some (rd t126 (wrap64 ((wrap64 (Int.tdiv (wrap64 ((wrap64 ((wrap64 (a1 * (l0.length : Int))) + a2)) - 1)) a2)) - 1)), true)) else (none)) else (none)))) else (some (0, false)))) else (some (0, false)))) else (some (0, false)))) = some (r1, r2) := h
  clear h
  replace H := Option.bind_eq_some_iff.mp H
  obtain ⟨t123, A40, H⟩ := H
  replace H : (if t123 = true then ((impl_in.f a2 1 1000).bind fun t124 => (if t124 = true then ((impl_in.f a1 1 a2).bind fun t125 => (if t125 = true then (if a2 = 0 then (none) else ((impl_sorted.f l0).bind fun t126 => (if 0 ≤ (wrap64 ((wrap64 (Int.tdiv (wrap64 ((wrap64 ((wrap64 (a1 * (l0.length : Int))) + a2)) - 1)) a2)) - 1)) then (if (wrap64 ((wrap64 (Int.tdiv (wrap64 ((wrap64 ((wrap64 (a1 * (l0.length : Int))) + a2)) - 1)) a2)) - 1)) < (t126.length : Int) then (some (rd t126 (wrap64 ((wrap64 (Int.tdiv (wrap64 ((wrap64 ((wrap64 (a1 * (l0.length : Int))) + a2)) - 1)) a2)) - 1)), true)) else (none)) else (none)))) else (some (0, false)))) else (some (0, false)))) else (some (0, false))) = some (r1, r2) := H
  have A4 := Aside0.mk A40
  clear A40
  by_cases c5 : t123 = true
  · subst c5
    have H1 : ((impl_in.f a2 1 1000).bind fun t124 => (if t124 = true then ((impl_in.f a1 1 a2).bind fun t125 => (if t125 = true then (if a2 = 0 then (none) else ((impl_sorted.f l0).bind fun t126 => (if 0 ≤ (wrap64 ((wrap64 (Int.tdiv (wrap64 ((wrap64 ((wrap64 (a1 * (l0.length : Int))) + a2)) - 1)) a2)) - 1)) then (if (wrap64 ((wrap64 (Int.tdiv (wrap64 ((wrap64 ((wrap64 (a1 * (l0.length : Int))) + a2)) - 1)) a2)) - 1)) < (t126.length : Int) then (some (rd t126 (wrap64 ((wrap64 (Int.tdiv (wrap64 ((wrap64 ((wrap64 (a1 * (l0.length : Int))) + a2)) - 1)) a2)) - 1)), true)) else (none)) else (none)))) else (some (0, false)))) else (some (0, false)))) = some (r1, r2) := by rw [if_pos rfl] at H; exact H
    clear H
    have H := H1
    clear H1
    replace H := Option.bind_eq_some_iff.mp H
    obtain ⟨t124, A60, H⟩ := H
    replace H : (if t124 = true then ((impl_in.f a1 1 a2).bind fun t125 => (if t125 = true then (if a2 = 0 then (none) else ((impl_sorted.f l0).bind fun t126 => (if 0 ≤ (wrap64 ((wrap64 (Int.tdiv (wrap64 ((wrap64 ((wrap64 (a1 * (l0.length : Int))) + a2)) - 1)) a2)) - 1)) then (if (wrap64 ((wrap64 (Int.tdiv (wrap64 ((wrap64 ((wrap64 (a1 * (l0.length : Int))) + a2)) - 1)) a2)) - 1)) < (t126.length : Int) then (some (rd t126 (wrap64 ((wrap64 (Int.tdiv (wrap64 ((wrap64 ((wrap64 (a1 * (l0.length : Int))) + a2)) - 1)) a2)) - 1)), true)) else (none)) else (none)))) else (some (0, false)))) else (some (0, false))) = some (r1, r2) := H
    have A6 := Aside0.mk A60
    clear A60
    by_cases c7 : t124 = true
    · subst c7
      have H1 : ((impl_in.f a1 1 a2).bind fun t125 => (if t125 = true then (if a2 = 0 then (none) else ((impl_sorted.f l0).bind fun t126 => (if 0 ≤ (wrap64 ((wrap64 (Int.tdiv (wrap64 ((wrap64 ((wrap64 (a1 * (l0.length : Int))) + a2)) - 1)) a2)) - 1)) then (if (wrap64 ((wrap64 (Int.tdiv (wrap64 ((wrap64 ((wrap64 (a1 * (l0.length : Int))) + a2)) - 1)) a2)) - 1)) < (t126.length : Int) then (some (rd t126 (wrap64 ((wrap64 (Int.tdiv (wrap64 ((wrap64 ((wrap64 (a1 * (l0.length : Int))) + a2)) - 1)) a2)) - 1)), true)) else (none)) else (none)))) else (some (0, false)))) = some (r1, r2) := by rw [if_pos rfl] at H; exact H
      clear H
      have H := H1
      clear H1
      replace H := Option.bind_eq_some_iff.mp H
      obtain ⟨t125, A80, H⟩ := H
      replace H : (if t125 = true then (if a2 = 0 then (none) else ((impl_sorted.f l0).bind fun t126 => (if 0 ≤ (wrap64 ((wrap64 (Int.tdiv (wrap64 ((wrap64 ((wrap64 (a1 * (l0.length : Int))) + a2)) - 1)) a2)) - 1)) then (if (wrap64 ((wrap64 (Int.tdiv (wrap64 ((wrap64 ((wrap64 (a1 * (l0.length : Int))) + a2)) - 1)) a2)) - 1)) < (t126.length : Int) then (some (rd t126 (wrap64 ((wrap64 (Int.tdiv (wrap64 ((wrap64 ((wrap64 (a1 * (l0.length : Int))) + a2)) - 1)) a2)) - 1)), true)) else (none)) else (none)))) else (some (0, false))) = some (r1, r2) := H
      have A8 := Aside0.mk A80
      clear A80
      by_cases c9 : t125 = true
      · subst c9
        have H1 : (if a2 = 0 then (none) else ((impl_sorted.f l0).bind fun t126 => (if 0 ≤ (wrap64 ((wrap64 (Int.tdiv (wrap64 ((wrap64 ((wrap64 (a1 * (l0.length : Int))) + a2)) - 1)) a2)) - 1)) then (if (wrap64 ((wrap64 (Int.tdiv (wrap64 ((wrap64 ((wrap64 (a1 * (l0.length : Int))) + a2)) - 1)) a2)) - 1)) < (t126.length : Int) then (some (rd t126 (wrap64 ((wrap64 (Int.tdiv (wrap64 ((wrap64 ((wrap64 (a1 * (l0.length : Int))) + a2)) - 1)) a2)) - 1)), true)) else (none)) else (none)))) = some (r1, r2) := by rw [if_pos rfl] at H; exact H
        clear H
        have H := H1
        clear H1
        by_cases c10 : a2 = 0
        · rw [if_pos c10] at H
          exact absurd H (by simp)
        · rw [if_neg c10] at H
          have c10b0 : (a2 == 0) = false := beq_eq_false_iff_ne.mpr c10
          have c10b1 : (a2 != 0) = true := bne_iff_ne.mpr c10
          replace H := Option.bind_eq_some_iff.mp H
          obtain ⟨t126, A110, H⟩ := H
          replace H : (if 0 ≤ (wrap64 ((wrap64 (Int.tdiv (wrap64 ((wrap64 ((wrap64 (a1 * (l0.length : Int))) + a2)) - 1)) a2)) - 1)) then (if (wrap64 ((wrap64 (Int.tdiv (wrap64 ((wrap64 ((wrap64 (a1 * (l0.length : Int))) + a2)) - 1)) a2)) - 1)) < (t126.length : Int) then (some (rd t126 (wrap64 ((wrap64 (Int.tdiv (wrap64 ((wrap64 ((wrap64 (a1 * (l0.length : Int))) + a2)) - 1)) a2)) - 1)), true)) else (none)) else (none)) = some (r1, r2) := H
          have A11 := Aside0.mk A110
          clear A110
          obtain ⟨ji12, hji12⟩ : ∃ j_ : Int, (wrap64 ((wrap64 (Int.tdiv (wrap64 ((wrap64 ((wrap64 (a1 * (l0.length : Int))) + a2)) - 1)) a2)) - 1)) = j_ := ⟨_, rfl⟩
          replace H : (if 0 ≤ (ji12) then (if (ji12) < (t126.length : Int) then (some (rd t126 (ji12), true)) else (none)) else (none)) = some (r1, r2) := by first | (rw [hji12] at H; exact H) | (simp only [hji12] at H ⊢; exact H)
          (try rw [hji12] at A4)
          (try rw [hji12] at A6)
          (try rw [hji12] at A8)
          (try rw [hji12] at A11)
          have hji12w : (IntKind.i64.wrap ((wrap64 (Int.tdiv (wrap64 ((wrap64 ((wrap64 (a1 * (l0.length : Int))) + a2)) - 1)) a2)) - 1)) = ji12 := (i64_w _).trans hji12
          by_cases c13 : 0 ≤ (ji12)
          · rw [if_pos c13] at H
            have c13b0 : decide (0 ≤ (ji12)) = true := decide_eq_true c13
            clear c13
            by_cases c14 : (ji12) < (t126.length : Int)
            · rw [if_pos c14] at H
              have c14b0 : decide ((ji12) < (t126.length : Int)) = true := decide_eq_true c14
              clear c14
              simp only [Option.some.injEq, Prod.mk.injEq] at H
              obtain ⟨rfl, rfl⟩ := H
              go_enter Try.func24, Try.ntmps24
              go_wp2_with (first | ((with_reducible refine gate_callee (f := 32) rfl ?_); refine goesL_ (some 11) rfl rfl Try.func32 (by kernel_rfl) rfl #[.slice A0 l0.length c0] rfl (by (try simp only [List.map_toArray, List.map_cons, List.map_nil]); first | done | rfl | (simp only [List.length_drop, List.length_take]; rfl)) ?_; (with_reducible refine (impl_seriesOk.calls k _ _ l0 true _ ?side1 ?side2 A4.out).mono ?_); (case side1 => repeat (first | exact HR0.out | (with_reducible refine Kd.C_alloc ?_ _) | (with_reducible refine Kd.C_drewN ?_ _) | (with_reducible refine Kd.C_drew ?_))); (case side2 => exact HC0.out); rintro e w' ⟨rfl, ⟨nd, rfl⟩⟩; refine ⟨_, rfl, ?_⟩) | (go_at_call 34; (with_reducible refine (impl_in.calls a2 1 1000 true _ A6.out).mono ?_); rintro e w' ⟨rfl, ⟨nd, rfl⟩⟩) | (go_at_call 34; (with_reducible refine (impl_in.calls a1 1 a2 true _ A8.out).mono ?_); rintro e w' ⟨rfl, ⟨nd, rfl⟩⟩) | ((with_reducible refine gate_callee (f := 44) rfl ?_); refine goesL_ (some 35) rfl rfl Try.func44 (by kernel_rfl) rfl #[.slice A0 l0.length c0] rfl (by (try simp only [List.map_toArray, List.map_cons, List.map_nil]); first | done | rfl | (simp only [List.length_drop, List.length_take]; rfl)) ?_; (with_reducible refine (impl_sorted.calls _ _ l0 t126 _ ?side1 ?side2 A11.out).mono ?_); (case side1 => repeat (first | exact HR0.out | (with_reducible refine Kd.C_alloc ?_ _) | (with_reducible refine Kd.C_drewN ?_ _) | (with_reducible refine Kd.C_drew ?_))); (case side2 => exact HC0.out); rintro e w15 ⟨v127, rfl, ho0, hb⟩; refine ⟨_, rfl, ?_⟩; have n0_ := Aside0.mk (Kd.R_lower ho0 (below_size (by repeat (first | (with_reducible first | exact HB.out | apply below_alloc | apply pw_below_drewN | apply below_drew1) | exact HB.out)))); have n1_ := Aside0.mk (below_step (by repeat (first | (with_reducible first | exact HB.out | apply below_alloc | apply pw_below_drewN | apply below_drew1) | exact HB.out)) hb); clear HB; have HO128 := n0_; have HB := n1_; clear n0_ n1_; (try clear hb); (try clear hb2); (try clear hk); (try clear hi); (try clear ho0); obtain ⟨Ao16, co16, eo16⟩ := Kd.R_slice HO128.out; subst eo16; have p129 : 0 ≤ ((ji12) : Int) := of_decide_eq_true (by first | (with_reducible assumption) | assumption); have q129 : (ji12) < (t126.length : Int) := of_decide_eq_true (by first | (with_reducible assumption) | assumption); obtain ⟨ad129, e129, hx129_0⟩ := Kd.at_int (Kd.R_reads' HO128.out).2.2 (ji12) p129 q129; cases e129; replace p129 := eq_true p129; replace q129 := eq_true q129))
              go_ret2
              exact ⟨by first | rfl | (simp [errW_none, errW_some] <;> rfl) | (simp only [← hji12]; first | rfl | (simp [errW_none, errW_some] <;> rfl)) | (simp [*, errW_none, errW_some] <;> rfl), by repeat (first | (with_reducible first | exact HB.out | apply below_alloc | apply pw_below_drewN | apply below_drew1) | exact HB.out)⟩
            · rw [if_neg c14] at H
              exact absurd H (by simp)
          · rw [if_neg c13] at H
            exact absurd H (by simp)
      · replace c9 := Bool.eq_false_iff.mpr c9
        subst c9
        have H1 : (some (0, false)) = some (r1, r2) := by rw [if_neg (show ¬ (false = true) by decide)] at H; exact H
        clear H
        have H := H1
        clear H1
        simp only [Option.some.injEq, Prod.mk.injEq] at H
        obtain ⟨rfl, rfl⟩ := H
        go_enter Try.func24, Try.ntmps24
        go_wp2_with (first | ((with_reducible refine gate_callee (f := 32) rfl ?_); refine goesL_ (some 11) rfl rfl Try.func32 (by kernel_rfl) rfl #[.slice A0 l0.length c0] rfl (by (try simp only [List.map_toArray, List.map_cons, List.map_nil]); first | done | rfl | (simp only [List.length_drop, List.length_take]; rfl)) ?_; (with_reducible refine (impl_seriesOk.calls k _ _ l0 true _ ?side1 ?side2 A4.out).mono ?_); (case side1 => repeat (first | exact HR0.out | (with_reducible refine Kd.C_alloc ?_ _) | (with_reducible refine Kd.C_drewN ?_ _) | (with_reducible refine Kd.C_drew ?_))); (case side2 => exact HC0.out); rintro e w' ⟨rfl, ⟨nd, rfl⟩⟩; refine ⟨_, rfl, ?_⟩) | (go_at_call 34; (with_reducible refine (impl_in.calls a2 1 1000 true _ A6.out).mono ?_); rintro e w' ⟨rfl, ⟨nd, rfl⟩⟩) | (go_at_call 34; (with_reducible refine (impl_in.calls a1 1 a2 false _ A8.out).mono ?_); rintro e w' ⟨rfl, ⟨nd, rfl⟩⟩))
        go_ret2
        exact ⟨by first | rfl | (simp [errW_none, errW_some] <;> rfl) | (simp [*, errW_none, errW_some] <;> rfl), by repeat (first | (with_reducible first | exact HB.out | apply below_alloc | apply pw_below_drewN | apply below_drew1) | exact HB.out)⟩
    · replace c7 := Bool.eq_false_iff.mpr c7
      subst c7
      have H1 : (some (0, false)) = some (r1, r2) := by rw [if_neg (show ¬ (false = true) by decide)] at H; exact H
      clear H
      have H := H1
      clear H1
      simp only [Option.some.injEq, Prod.mk.injEq] at H
      obtain ⟨rfl, rfl⟩ := H
      go_enter Try.func24, Try.ntmps24
      go_wp2_with (first | ((with_reducible refine gate_callee (f := 32) rfl ?_); refine goesL_ (some 11) rfl rfl Try.func32 (by kernel_rfl) rfl #[.slice A0 l0.length c0] rfl (by (try simp only [List.map_toArray, List.map_cons, List.map_nil]); first | done | rfl | (simp only [List.length_drop, List.length_take]; rfl)) ?_; (with_reducible refine (impl_seriesOk.calls k _ _ l0 true _ ?side1 ?side2 A4.out).mono ?_); (case side1 => repeat (first | exact HR0.out | (with_reducible refine Kd.C_alloc ?_ _) | (with_reducible refine Kd.C_drewN ?_ _) | (with_reducible refine Kd.C_drew ?_))); (case side2 => exact HC0.out); rintro e w' ⟨rfl, ⟨nd, rfl⟩⟩; refine ⟨_, rfl, ?_⟩) | (go_at_call 34; (with_reducible refine (impl_in.calls a2 1 1000 false _ A6.out).mono ?_); rintro e w' ⟨rfl, ⟨nd, rfl⟩⟩))
      go_ret2
      exact ⟨by first | rfl | (simp [errW_none, errW_some] <;> rfl) | (simp [*, errW_none, errW_some] <;> rfl), by repeat (first | (with_reducible first | exact HB.out | apply below_alloc | apply pw_below_drewN | apply below_drew1) | exact HB.out)⟩
  · replace c5 := Bool.eq_false_iff.mpr c5
    subst c5
    have H1 : (some (0, false)) = some (r1, r2) := by rw [if_neg (show ¬ (false = true) by decide)] at H; exact H
    clear H
    have H := H1
    clear H1
    simp only [Option.some.injEq, Prod.mk.injEq] at H
    obtain ⟨rfl, rfl⟩ := H
    go_enter Try.func24, Try.ntmps24
    go_wp2_with (first | ((with_reducible refine gate_callee (f := 32) rfl ?_); refine goesL_ (some 11) rfl rfl Try.func32 (by kernel_rfl) rfl #[.slice A0 l0.length c0] rfl (by (try simp only [List.map_toArray, List.map_cons, List.map_nil]); first | done | rfl | (simp only [List.length_drop, List.length_take]; rfl)) ?_; (with_reducible refine (impl_seriesOk.calls k _ _ l0 false _ ?side1 ?side2 A4.out).mono ?_); (case side1 => repeat (first | exact HR0.out | (with_reducible refine Kd.C_alloc ?_ _) | (with_reducible refine Kd.C_drewN ?_ _) | (with_reducible refine Kd.C_drew ?_))); (case side2 => exact HC0.out); rintro e w' ⟨rfl, ⟨nd, rfl⟩⟩; refine ⟨_, rfl, ?_⟩))
    go_ret2
    exact ⟨by first | rfl | (simp [errW_none, errW_some] <;> rfl) | (simp [*, errW_none, errW_some] <;> rfl), by repeat (first | (with_reducible first | exact HB.out | apply below_alloc | apply pw_below_drewN | apply below_drew1) | exact HB.out)⟩

/-! ### laws_FnExactShare: function 6 -/
def laws_FnExactShare.j0 : Nat → List Int → List Int → Bool → Option (Bool)
  | 0, _, _, _ => none
  | k + 1, x0, x9, x39 => if x39 = true then (some false) else ((laws_toInt64S.f k x0).bind fun t140 => ((laws_eqInt64S.f k x9 t140).bind fun t143 => (if t143 = true then (some true) else (some false))))
def laws_FnExactShare.f (k : Nat) (l0 : List Int) (a1 : Int) (a2 : Int) : Option (Bool) := if (l0.length : Int) > 1048576 then (some true) else ((laws_toInt64S.f k l0).bind fun t130 => ((spec_Share.f k t130 a1 a2).bind fun bt133 => ((laws_toInt64S.f k l0).bind fun t135 => ((impl_Share.f k t135 a1 a2).bind fun bt138 => (if bt138.1 = bt133.1 then (laws_FnExactShare.j0 k l0 t135 (bt138.2 != bt133.2)) else (laws_FnExactShare.j0 k l0 t135 true))))))
theorem laws_FnExactShare.mono_l : ∀ k, (∀ y0 y1 y2, LeO (laws_FnExactShare.j0 k y0 y1 y2) (laws_FnExactShare.j0 (k + 1) y0 y1 y2))
  | 0 => fun _ _ _ r h => by simp [laws_FnExactShare.j0] at h
  | k + 1 => by
    have ih0 := laws_FnExactShare.mono_l k
    · intro y0 y1 y2
      unfold laws_FnExactShare.j0
      repeat' first
      | (with_reducible exact ih0 _ _ _)
      | (with_reducible exact impl_Share.mono _ _ _ _)
      | (with_reducible exact laws_eqInt64S.mono _ _ _)
      | (with_reducible exact laws_toInt64S.mono _ _)
      | (with_reducible exact spec_Share.mono _ _ _ _)
      | (with_reducible exact LeO.refl _)
      | (with_reducible exact LeO.none _)
      | (with_reducible refine LeO.ite ?_ ?_)
      | (with_reducible refine LeO.bind ?_ (fun _ => ?_))
      | exact ih0 _ _ _
      | exact impl_Share.mono _ _ _ _
      | exact laws_eqInt64S.mono _ _ _
      | exact laws_toInt64S.mono _ _
      | exact spec_Share.mono _ _ _ _
      | exact LeO.none _
      | refine LeO.ite ?_ ?_
      | refine LeO.bind ?_ (fun _ => ?_)
theorem laws_FnExactShare.mono : ∀ a0 a1 a2 k, LeO (laws_FnExactShare.f k a0 a1 a2) (laws_FnExactShare.f (k + 1) a0 a1 a2) := by
  intro a0 a1 a2 k
  have ih0 := laws_FnExactShare.mono_l k
  unfold laws_FnExactShare.f
  repeat' first
      | (with_reducible exact ih0 _ _ _)
      | (with_reducible exact impl_Share.mono _ _ _ _)
      | (with_reducible exact laws_eqInt64S.mono _ _ _)
      | (with_reducible exact laws_toInt64S.mono _ _)
      | (with_reducible exact spec_Share.mono _ _ _ _)
      | (with_reducible exact LeO.refl _)
      | (with_reducible exact LeO.none _)
      | (with_reducible refine LeO.ite ?_ ?_)
      | (with_reducible refine LeO.bind ?_ (fun _ => ?_))
      | exact ih0 _ _ _
      | exact impl_Share.mono _ _ _ _
      | exact laws_eqInt64S.mono _ _ _
      | exact laws_toInt64S.mono _ _
      | exact spec_Share.mono _ _ _ _
      | exact LeO.none _
      | refine LeO.ite ?_ ?_
      | refine LeO.bind ?_ (fun _ => ?_)
set_option maxHeartbeats 8000000 in
set_option maxRecDepth 100000 in
theorem laws_FnExactShare.calls (k : Nat) (A0 : Option Addr) (c0 : Nat) (l0 : List Int) (a1 : Int) (a2 : Int) (w : World) (hr0 : Kd.C (Kd.int .i64) w A0 l0.length l0) (hc0 : l0.length ≤ c0) (h : laws_FnExactShare.f k l0 a1 a2 = some true) :
    Calls Try.prog 6 #[.slice A0 l0.length c0, .int .i64 a1, .int .i64 a2] w fun e w' => e = .returned (.bool true) ∧ Below w.heap.size w w' := by
  have HR0 := Aside0.mk hr0
  have HC0 := Aside0.mk hc0
  clear hr0 hc0
  have HB := Aside0.mk (Below.refl w.heap.size w)
  have H : (if (l0.length : Int) > 1048576 then (some true) else ((laws_toInt64S.f k l0).bind fun t130 => ((spec_Share.f k t130 a1 a2).bind fun bt133 => ((laws_toInt64S.f k l0).bind fun t135 => ((impl_Share.f k t135 a1 a2).bind fun bt138 => (if bt138.1 = bt133.1 then (laws_FnExactShare.j0 k l0 t135 (bt138.2 != bt133.2)) else (laws_FnExactShare.j0 k l0 t135 true))))))) = some true := h
  clear h
  by_cases c4 : (l0.length : Int) > 1048576
  · rw [if_pos c4] at H
    have c4b0 : decide (1048576 < (l0.length : Int)) = true := decide_eq_true c4
    have c4b1 : decide (1048576 < l0.length) = true := decide_eq_true (by omega)
    clear c4
    clear H
    go_enter Try.func6, Try.ntmps6
    go_wp2
    go_ret
    exact ⟨by first | rfl | (simp [errW_none, errW_some] <;> rfl) | (simp [*, errW_none, errW_some] <;> rfl), by repeat (first | (with_reducible first | exact HB.out | apply below_alloc | apply pw_below_drewN | apply below_drew1) | exact HB.out)⟩
  · rw [if_neg c4] at H
    have c4b0 : decide (1048576 < (l0.length : Int)) = false := decide_eq_false c4
    have c4b1 : decide (1048576 < l0.length) = false := decide_eq_false (by omega)
    clear c4
    replace H := Option.bind_eq_some_iff.mp H
    obtain ⟨t130, A50, H⟩ := H
    replace H : ((spec_Share.f k t130 a1 a2).bind fun bt133 => ((laws_toInt64S.f k l0).bind fun t135 => ((impl_Share.f k t135 a1 a2).bind fun bt138 => (if bt138.1 = bt133.1 then (laws_FnExactShare.j0 k l0 t135 (bt138.2 != bt133.2)) else (laws_FnExactShare.j0 k l0 t135 true))))) = some true := H
    have A5 := Aside0.mk A50
    clear A50
    replace H := Option.bind_eq_some_iff.mp H
    obtain ⟨⟨t133, t134⟩, A60, H⟩ := H
    replace H : ((laws_toInt64S.f k l0).bind fun t135 => ((impl_Share.f k t135 a1 a2).bind fun bt138 => (if bt138.1 = t133 then (laws_FnExactShare.j0 k l0 t135 (bt138.2 != t134)) else (laws_FnExactShare.j0 k l0 t135 true)))) = some true := H
    have A6 := Aside0.mk A60
    clear A60
    replace H := Option.bind_eq_some_iff.mp H
    obtain ⟨t135, A70, H⟩ := H
    replace H : ((impl_Share.f k t135 a1 a2).bind fun bt138 => (if bt138.1 = t133 then (laws_FnExactShare.j0 k l0 t135 (bt138.2 != t134)) else (laws_FnExactShare.j0 k l0 t135 true))) = some true := H
    have A7 := Aside0.mk A70
    clear A70
    replace H := Option.bind_eq_some_iff.mp H
    obtain ⟨⟨t138, t139⟩, A80, H⟩ := H
    replace H : (if t138 = t133 then (laws_FnExactShare.j0 k l0 t135 (t139 != t134)) else (laws_FnExactShare.j0 k l0 t135 true)) = some true := H
    have A8 := Aside0.mk A80
    clear A80
    have HC9 := Aside0.mk H
    clear H
    go_enter Try.func6, Try.ntmps6
    go_upto_region 6 with (first | ((with_reducible refine gate_callee (f := 20) rfl ?_); refine goesL_ (some 17) rfl rfl Try.func20 (by kernel_rfl) rfl #[.slice A0 l0.length c0] rfl (by (try simp only [List.map_toArray, List.map_cons, List.map_nil]); first | done | rfl | (simp only [List.length_drop, List.length_take]; rfl)) ?_; (with_reducible refine (laws_toInt64S.calls k _ _ l0 t130 _ ?side1 ?side2 A5.out).mono ?_); (case side1 => repeat (first | exact HR0.out | (with_reducible refine Kd.C_alloc ?_ _) | (with_reducible refine Kd.C_drewN ?_ _) | (with_reducible refine Kd.C_drew ?_))); (case side2 => exact HC0.out); rintro e w10 ⟨v131, rfl, ho0, hb⟩; refine ⟨_, rfl, ?_⟩; have n0_ := Aside0.mk (Kd.R_lower ho0 (below_size (by repeat (first | (with_reducible first | exact HB.out | apply below_alloc | apply pw_below_drewN | apply below_drew1) | exact HB.out)))); have n1_ := Aside0.mk (below_step (by repeat (first | (with_reducible first | exact HB.out | apply below_alloc | apply pw_below_drewN | apply below_drew1) | exact HB.out)) hb); clear HB; have HO132 := n0_; have HB := n1_; clear n0_ n1_; (try clear hb); (try clear hb2); (try clear hk); (try clear hi); (try clear ho0); obtain ⟨Ao11, co11, eo11⟩ := Kd.R_slice HO132.out; subst eo11) | ((with_reducible refine gate_callee (f := 23) rfl ?_); refine goesL_ (some 20) rfl rfl Try.func23 (by kernel_rfl) rfl #[.slice Ao11 t130.length co11, .int .i64 a1, .int .i64 a2] rfl (by (try simp only [List.map_toArray, List.map_cons, List.map_nil]); first | done | rfl | (simp only [List.length_drop, List.length_take]; rfl)) ?_; (with_reducible refine (spec_Share.calls k _ _ t130 a1 a2 t133 t134 _ ?side1 ?side2 A6.out).mono ?_); (case side1 => repeat (first | exact (Kd.R_reads' HO132.out).2.2 | (with_reducible refine Kd.C_alloc ?_ _) | (with_reducible refine Kd.C_drewN ?_ _) | (with_reducible refine Kd.C_drew ?_))); (case side2 => exact (Kd.R_reads' HO132.out).2.1); rintro e w' ⟨rfl, ⟨nd, rfl⟩⟩; refine ⟨_, rfl, ?_⟩) | ((with_reducible refine gate_callee (f := 20) rfl ?_); refine goesL_ (some 24) rfl rfl Try.func20 (by kernel_rfl) rfl #[.slice A0 l0.length c0] rfl (by (try simp only [List.map_toArray, List.map_cons, List.map_nil]); first | done | rfl | (simp only [List.length_drop, List.length_take]; rfl)) ?_; (with_reducible refine (laws_toInt64S.calls k _ _ l0 t135 _ ?side1 ?side2 A7.out).mono ?_); (case side1 => repeat (first | exact (Kd.C_below HR0.out (by repeat (first | (with_reducible first | exact HB.out | apply below_alloc | apply pw_below_drewN | apply below_drew1) | exact HB.out))) | (with_reducible refine Kd.C_alloc ?_ _) | (with_reducible refine Kd.C_drewN ?_ _) | (with_reducible refine Kd.C_drew ?_))); (case side2 => exact HC0.out); rintro e w12 ⟨v136, rfl, ho0, hb⟩; refine ⟨_, rfl, ?_⟩; have n0_ := Aside0.mk (Kd.R_elder' (by (with_reducible repeat (first | apply Kd.R_alloc | apply Kd.R_drewN | apply Kd.R_drew)); exact HO132.out) (Kd.R_base ho0) hb); have n1_ := Aside0.mk (Kd.R_lower (Kd.R_new' ho0 (Kd.R_lt (by (with_reducible repeat (first | apply Kd.R_alloc | apply Kd.R_drewN | apply Kd.R_drew)); exact HO132.out))) (below_size (by repeat (first | (with_reducible first | exact HB.out | apply below_alloc | apply pw_below_drewN | apply below_drew1) | exact HB.out)))); have n2_ := Aside0.mk (below_step (by repeat (first | (with_reducible first | exact HB.out | apply below_alloc | apply pw_below_drewN | apply below_drew1) | exact HB.out)) hb); clear HO132; clear HB; have HO132 := n0_; have HO137 := n1_; have HB := n2_; clear n0_ n1_ n2_; (try clear hb); (try clear hb2); (try clear hk); (try clear hi); (try clear ho0); obtain ⟨Ao13, co13, eo13⟩ := Kd.R_slice HO137.out; subst eo13) | ((with_reducible refine gate_callee (f := 24) rfl ?_); refine goesL_ (some 29) rfl rfl Try.func24 (by kernel_rfl) rfl #[.slice Ao13 t135.length co13, .int .i64 a1, .int .i64 a2] rfl (by (try simp only [List.map_toArray, List.map_cons, List.map_nil]); first | done | rfl | (simp only [List.length_drop, List.length_take]; rfl)) ?_; (with_reducible refine (impl_Share.calls k _ _ t135 a1 a2 t138 t139 _ ?side1 ?side2 A8.out).mono ?_); (case side1 => repeat (first | exact (Kd.R_reads' HO137.out).2.2 | (with_reducible refine Kd.C_alloc ?_ _) | (with_reducible refine Kd.C_drewN ?_ _) | (with_reducible refine Kd.C_drew ?_))); (case side2 => exact (Kd.R_reads' HO137.out).2.1); rintro e w14 ⟨rfl, hb⟩; refine ⟨_, rfl, ?_⟩; have n0_ := Aside0.mk (Kd.R_below (by (with_reducible repeat (first | apply Kd.R_alloc | apply Kd.R_drewN | apply Kd.R_drew)); exact HO132.out) hb); have n1_ := Aside0.mk (Kd.R_below (by (with_reducible repeat (first | apply Kd.R_alloc | apply Kd.R_drewN | apply Kd.R_drew)); exact HO137.out) hb); have n2_ := Aside0.mk (below_step (by repeat (first | (with_reducible first | exact HB.out | apply below_alloc | apply pw_below_drewN | apply below_drew1) | exact HB.out)) hb); clear HO132; clear HO137; clear HB; have HO132 := n0_; have HO137 := n1_; have HB := n2_; clear n0_ n1_ n2_; (try clear hb); (try clear hb2); (try clear hk); (try clear hi)))
    (try simp only [Act.put, List.setIfInBounds_toArray, List.set_cons_zero, List.set_cons_succ])
    go_cut [39] (fun v39 wc => ∃ (kq : Nat) (x39_8 : Bool), v39 = .bool x39_8 ∧ Aside0 (laws_FnExactShare.j0 kq l0 t135 x39_8 = some true) ∧ Aside0 (kq ≤ k) ∧ Aside0 (Kd.R (Kd.int .i64) 2 wc w.heap.size (fun _ => True) (.slice Ao13 t135.length co13) t135) ∧ Aside0 (Below w.heap.size w wc))
    case first =>
      have H := HC9.out
      clear HC9
      by_cases c15 : t138 = t133
      · rw [if_pos c15] at H
        have c15b0 : (t138 == t133) = true := beq_iff_eq.mpr c15
        have c15b1 : (t138 != t133) = false := bne_eq_false_iff_eq.mpr c15
        clear c15
        (first | rw [c15b0] | (simp only [i64_w, i32_w]; rw [c15b0]) | skip)
        have H' := Aside0.mk H
        clear H
        go_wp2
        go_meet
        case rel => exact ⟨_, ((t139 != t134)), (by first | rfl | (simp; done) | (simp [*]; done)), H', ⟨by first | omega | exact Nat.le_refl _⟩, ⟨by (with_reducible repeat (first | apply Kd.R_alloc | apply Kd.R_drewN | apply Kd.R_drew)); exact Kd.R_mono HO137.out (fun _ hk => trivial)⟩, ⟨by repeat (first | (with_reducible first | exact HB.out | apply below_alloc | apply pw_below_drewN | apply below_drew1) | exact HB.out)⟩⟩
      · rw [if_neg c15] at H
        have c15b0 : (t138 == t133) = false := beq_eq_false_iff_ne.mpr c15
        have c15b1 : (t138 != t133) = true := bne_iff_ne.mpr c15
        (first | rw [c15b0] | (simp only [i64_w, i32_w]; rw [c15b0]) | skip)
        have H' := Aside0.mk H
        clear H
        go_wp2
        go_meet
        case rel => exact ⟨_, (true), (by first | rfl | (simp; done) | (simp [*]; done)), H', ⟨by first | omega | exact Nat.le_refl _⟩, ⟨by (with_reducible repeat (first | apply Kd.R_alloc | apply Kd.R_drewN | apply Kd.R_drew)); exact Kd.R_mono HO137.out (fun _ hk => trivial)⟩, ⟨by repeat (first | (with_reducible first | exact HB.out | apply below_alloc | apply pw_below_drewN | apply below_drew1) | exact HB.out)⟩⟩
    case rest =>
      clear HC9
      try clear c1
      try clear c2
      try clear p2
      try clear c4
      try clear c4b0
      try clear c4b1
      try clear c6
      try clear c15
      try clear c15b0
      try clear c15b1
      obtain ⟨kq, x39_8, rfl, HA, HJ8, HO_9, HB⟩ := hcut
      cases kq with
      | zero => exact absurd HA.out (by simp [laws_FnExactShare.j0])
      | succ kj8 =>
        have H := HA.out
        clear HA
        simp only [laws_FnExactShare.j0] at H
        by_cases c16 : x39_8 = true
        · subst c16
          have H1 : (some false) = some true := by rw [if_pos rfl] at H; exact H
          clear H
          have H := H1
          clear H1
          exact absurd H (by simp)
        · replace c16 := Bool.eq_false_iff.mpr c16
          subst c16
          have H1 : ((laws_toInt64S.f kj8 l0).bind fun t140 => ((laws_eqInt64S.f kj8 t135 t140).bind fun t143 => (if t143 = true then (some true) else (some false)))) = some true := by rw [if_neg (show ¬ (false = true) by decide)] at H; exact H
          clear H
          have H := H1
          clear H1
          replace H := Option.bind_eq_some_iff.mp H
          obtain ⟨t140, A170, H⟩ := H
          replace H : ((laws_eqInt64S.f kj8 t135 t140).bind fun t143 => (if t143 = true then (some true) else (some false))) = some true := H
          have A17 := Aside0.mk A170
          clear A170
          replace H := Option.bind_eq_some_iff.mp H
          obtain ⟨t143, A180, H⟩ := H
          replace H : (if t143 = true then (some true) else (some false)) = some true := H
          have A18 := Aside0.mk A180
          clear A180
          by_cases c19 : t143 = true
          · subst c19
            have H1 : (some true) = some true := rfl
            clear H
            have H := H1
            clear H1
            clear H
            go_wp2_with (first | ((with_reducible refine gate_callee (f := 20) rfl ?_); refine goesL_ (some 42) rfl rfl Try.func20 (by kernel_rfl) rfl #[.slice A0 l0.length c0] rfl (by (try simp only [List.map_toArray, List.map_cons, List.map_nil]); first | done | rfl | (simp only [List.length_drop, List.length_take]; rfl)) ?_; (with_reducible refine (laws_toInt64S.calls kj8 _ _ l0 t140 _ ?side1 ?side2 A17.out).mono ?_); (case side1 => repeat (first | exact (Kd.C_below HR0.out HB.out) | (with_reducible refine Kd.C_alloc ?_ _) | (with_reducible refine Kd.C_drewN ?_ _) | (with_reducible refine Kd.C_drew ?_))); (case side2 => exact HC0.out); rintro e w20 ⟨v141, rfl, ho0, hb⟩; refine ⟨_, rfl, ?_⟩; have n0_ := Aside0.mk (Kd.R_elder' (by (with_reducible repeat (first | apply Kd.R_alloc | apply Kd.R_drewN | apply Kd.R_drew)); exact HO_9.out) (Kd.R_base ho0) hb); have n1_ := Aside0.mk (Kd.R_lower (Kd.R_new' ho0 (Kd.R_lt (by (with_reducible repeat (first | apply Kd.R_alloc | apply Kd.R_drewN | apply Kd.R_drew)); exact HO_9.out))) (below_size (by repeat (first | (with_reducible first | exact HB.out | apply below_alloc | apply pw_below_drewN | apply below_drew1) | exact HB.out)))); have n2_ := Aside0.mk (below_step (by repeat (first | (with_reducible first | exact HB.out | apply below_alloc | apply pw_below_drewN | apply below_drew1) | exact HB.out)) hb); clear HO_9; clear HB; have HO_9 := n0_; have HO142 := n1_; have HB := n2_; clear n0_ n1_ n2_; (try clear hb); (try clear hb2); (try clear hk); (try clear hi); (try clear ho0); obtain ⟨Ao21, co21, eo21⟩ := Kd.R_slice HO142.out; subst eo21) | ((with_reducible refine gate_callee (f := 22) rfl ?_); refine goesL_ (some 43) rfl rfl Try.func22 (by kernel_rfl) rfl #[.slice Ao13 t135.length co13, .slice Ao21 t140.length co21] rfl (by (try simp only [List.map_toArray, List.map_cons, List.map_nil]); first | done | rfl | (simp only [List.length_drop, List.length_take]; rfl)) ?_; (with_reducible refine (laws_eqInt64S.calls kj8 _ _ t135 _ _ t140 true _ ?side1 ?side2 ?side3 ?side4 A18.out).mono ?_); (case side1 => repeat (first | exact (Kd.R_reads' HO_9.out).2.2 | (with_reducible refine Kd.C_alloc ?_ _) | (with_reducible refine Kd.C_drewN ?_ _) | (with_reducible refine Kd.C_drew ?_))); (case side2 => exact (Kd.R_reads' HO_9.out).2.1); (case side3 => repeat (first | exact (Kd.R_reads' HO142.out).2.2 | (with_reducible refine Kd.C_alloc ?_ _) | (with_reducible refine Kd.C_drewN ?_ _) | (with_reducible refine Kd.C_drew ?_))); (case side4 => exact (Kd.R_reads' HO142.out).2.1); rintro e w' ⟨rfl, ⟨nd, rfl⟩⟩; refine ⟨_, rfl, ?_⟩))
            go_ret
            exact ⟨by first | rfl | (simp [errW_none, errW_some] <;> rfl) | (simp [*, errW_none, errW_some] <;> rfl), by repeat (first | (with_reducible first | exact HB.out | apply below_alloc | apply pw_below_drewN | apply below_drew1) | exact HB.out)⟩
          · replace c19 := Bool.eq_false_iff.mpr c19
            subst c19
            have H1 : (some false) = some true := by rw [if_neg (show ¬ (false = true) by decide)] at H; exact H
            clear H
            have H := H1
            clear H1
            exact absurd H (by simp)

/-- THE ONE PURE STATEMENT of laws_FnExactShare: yours. -/
def laws_FnExactShare.Pure : Prop := ∀ (l0 : List Int) (a1 : Int) (a2 : Int), l0.length ≤ maxLen → l0.length * 8 ≤ 140737488351232 → (∀ x ∈ l0, (Lit.int .i64 x).wf = true) → (Lit.int .i64 a1).wf = true → (Lit.int .i64 a2).wf = true → ∃ k, laws_FnExactShare.f k l0 a1 a2 = some true
theorem laws_FnExactShare.walk (P : laws_FnExactShare.Pure) (a0 : Option Addr) (len0 cap0 : Nat) (z0 : List Int) (a1 : Int) (a2 : Int) (w : World) (w0 : (a0 = none ∧ len0 = 0 ∧ cap0 = 0 ∧ z0 = []) ∨ ∃ x, a0 = some x ∧ len0 ≤ cap0 ∧ cap0 ≤ maxLen ∧ z0.length = cap0 ∧ (∀ i, i < z0.length → w.cell? (x.add i) = some (.int .i64 (z0.getD i 0))) ∧ ∀ n ∈ z0, (Lit.int .i64 n).wf = true) (y0 : len0 * 8 ≤ 140737488351232) (w1 : (Lit.int .i64 a1).wf = true) (w2 : (Lit.int .i64 a2).wf = true) :
    Calls Try.prog 6 #[.slice a0 len0 cap0, .int .i64 a1, .int .i64 a2] w fun e w' => e = .returned (.bool true) ∧ Below w.heap.size w w' := by
  obtain ⟨l0, rfl, hr0, hm0, hw0, hc0⟩ := ReadsInt.ofRowC w0
  obtain ⟨k, h⟩ := P l0 a1 a2 hm0 y0 hw0 w1 w2
  refine (laws_FnExactShare.calls k _ _ l0 a1 a2 w (Kd.C_of_reads (d := (0 : Int)) (h1 := fun _ => rfl) hr0) hc0 h).mono ?_
  rintro e w' ⟨rfl, hd⟩
  exact ⟨rfl, hd⟩

end Go.Proofs.Ytmjfmhbklifafaa.QFnExactShare
