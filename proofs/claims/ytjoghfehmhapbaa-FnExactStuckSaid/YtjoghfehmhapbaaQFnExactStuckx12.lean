-- Written by a program of this session out of the printer's texts and contracts of its own.
import Derived.Test.YtjoghfehmhapbaaSq
import Derived.Test.YtjoghfehmhapbaaQFnExactStuckx0
import Derived.Test.YtjoghfehmhapbaaQFnExactStuckx1
import Derived.Test.YtjoghfehmhapbaaQFnExactStuckx3
import Derived.Test.YtjoghfehmhapbaaQFnExactStuckx4
namespace Go.Proofs.Ytjoghfehmhapbaa.QFnExactStuck
open Go.RowKit Go.Proofs.YtjoghfehmhapbaaW.PrintWords Go.Proofs.YtjoghfehmhapbaaW.PrintLast Go.Proofs.YtjoghfehmhapbaaW.PrintMore Go.Proofs.Ytjoghfehmhapbaa.Sq
attribute [local go_sem] max2_int min2_int max_two min_two max_three min_three max_four min_four   -- for this text's walks alone
set_option linter.unusedVariables false
set_option linter.unusedSimpArgs false
theorem sABelo_12 {b : Nat} {w W : World} (h : Below b w W := by repeat (first | (with_reducible first | exact Aside0.out (by assumption) | apply below_alloc | apply pw_below_drewN | apply below_drew1 | refine below_set ?_ (Aside0.out (by assumption))) | exact Aside0.out (by assumption))) : Below b w W := h

/-! ### spec_l24Ok: function 58 -/
mutual
def spec_l24Ok.j0 : Nat → Bool → List (S39) → List Int → Int → List (S43) → Option (Bool)
 | 0, _, _, _, _, _ => none
 | k + 1, x26, x235000, x235001, x235002, x235003 => if x26 = true then (some false) else (spec_l24Ok.l0 k 0 x235000 x235001 x235002 x235003)
def spec_l24Ok.l0 : Nat → Int → List (S39) → List Int → Int → List (S43) → Option (Bool)
 | 0, _, _, _, _, _ => none
 | k + 1, x3, x235000, x235001, x235002, x235003 => if x3 < (x235003.length : Int) then (if 0 ≤ x3 then (if x3 < (x235000.length : Int) then ((spec_l2In.f ((rd_T43 x235003 x3).f0) 0 3).bind fun t240 => (if t240 = true then ((spec_l2In.f ((rd_T43 x235003 x3).f1) 0 ((rd_T39 x235000 x3).f3)).bind fun t241 => (spec_l24Ok.j2 k x3 ((rd_T39 x235000 x3).f3) (!t241) x235000 x235001 x235002 x235003 ((rd_T43 x235003 x3).f0) ((rd_T43 x235003 x3).f1))) else (spec_l24Ok.j2 k x3 ((rd_T39 x235000 x3).f3) true x235000 x235001 x235002 x235003 ((rd_T43 x235003 x3).f0) ((rd_T43 x235003 x3).f1)))) else (none)) else (none)) else (spec_l24Ok.l1 k 0 x235000 x235001 x235002 x235003)
def spec_l24Ok.j2 : Nat → Int → Int → Bool → List (S39) → List Int → Int → List (S43) → Int → Int → Option (Bool)
 | 0, _, _, _, _, _, _, _, _, _ => none
 | k + 1, x3, x5, x56, x235000, x235001, x235002, x235003, x239000, x239001 => if x56 = true then (some false) else (if x239000 = 0 then (if x239001 = x5 then (some false) else (if x239000 = 3 then (some false) else (spec_l24Ok.l0 k (wrap64 (x3 + 1)) x235000 x235001 x235002 x235003))) else (if x239000 = 3 then (if x239001 = x5 then (if x239001 = 0 then (some false) else ((spec_l24Free.f k x235000 x235001 x235002 x235003 x3).bind fun t242 => (if t242 = true then (spec_l24Ok.l0 k (wrap64 (x3 + 1)) x235000 x235001 x235002 x235003) else (some false)))) else (some false)) else (if x239001 = 0 then (some false) else ((spec_l24Free.f k x235000 x235001 x235002 x235003 x3).bind fun t243 => (if t243 = true then (spec_l24Ok.l0 k (wrap64 (x3 + 1)) x235000 x235001 x235002 x235003) else (some false))))))
def spec_l24Ok.l1 : Nat → Int → List (S39) → List Int → Int → List (S43) → Option (Bool)
 | 0, _, _, _, _, _ => none
 | k + 1, x6, x235000, x235001, x235002, x235003 => if x6 < (x235001.length : Int) then ((spec_l24Running.f k x235000 x235001 x235002 x235003 (wrap64 (x6 + 1))).bind fun t244 => (if 0 ≤ x6 then (if t244 > (rd x235001 x6) then (some false) else (spec_l24Ok.l1 k (wrap64 (x6 + 1)) x235000 x235001 x235002 x235003)) else (none))) else (some true)
end
def spec_l24Ok.f (k : Nat) (l0_0 : List (S39)) (l0_1 : List Int) (a0_2 : Int) (l0_3 : List (S43)) : Option (Bool) := (spec_SuiteOk.f k l0_0 l0_1).bind fun t235 => (if t235 = true then ((spec_l2In.f a0_2 0 1000000000000).bind fun t236 => (if t236 = true then (spec_l24Ok.j0 k ((l0_3.length : Int) != (l0_0.length : Int)) l0_0 l0_1 a0_2 l0_3) else (spec_l24Ok.j0 k true l0_0 l0_1 a0_2 l0_3))) else (spec_l24Ok.j0 k true l0_0 l0_1 a0_2 l0_3))
theorem spec_l24Ok.mono_l : ∀ k, (∀ y0 y1 y2 y3 y4, LeO (spec_l24Ok.j0 k y0 y1 y2 y3 y4) (spec_l24Ok.j0 (k + 1) y0 y1 y2 y3 y4)) ∧ (∀ y0 y1 y2 y3 y4, LeO (spec_l24Ok.l0 k y0 y1 y2 y3 y4) (spec_l24Ok.l0 (k + 1) y0 y1 y2 y3 y4)) ∧ (∀ y0 y1 y2 y3 y4 y5 y6 y7 y8, LeO (spec_l24Ok.j2 k y0 y1 y2 y3 y4 y5 y6 y7 y8) (spec_l24Ok.j2 (k + 1) y0 y1 y2 y3 y4 y5 y6 y7 y8)) ∧ (∀ y0 y1 y2 y3 y4, LeO (spec_l24Ok.l1 k y0 y1 y2 y3 y4) (spec_l24Ok.l1 (k + 1) y0 y1 y2 y3 y4))
 | 0 => ⟨fun _ _ _ _ _ r h => by simp [spec_l24Ok.j0] at h, fun _ _ _ _ _ r h => by simp [spec_l24Ok.l0] at h, fun _ _ _ _ _ _ _ _ _ r h => by simp [spec_l24Ok.j2] at h, fun _ _ _ _ _ r h => by simp [spec_l24Ok.l1] at h⟩
 | k + 1 => by
  obtain ⟨ih0, ih1, ih2, ih3⟩ := spec_l24Ok.mono_l k
  refine ⟨?_, ?_, ?_, ?_⟩
  intro y0 y1 y2 y3 y4; unfold spec_l24Ok.j0; rotate_left
  intro y0 y1 y2 y3 y4; unfold spec_l24Ok.l0; rotate_left
  intro y0 y1 y2 y3 y4 y5 y6 y7 y8; unfold spec_l24Ok.j2; rotate_left
  intro y0 y1 y2 y3 y4; unfold spec_l24Ok.l1; rotate_left
  all_goals repeat' first
  | (with_reducible exact ih0 _ _ _ _ _)
  | (with_reducible exact ih1 _ _ _ _ _)
  | (with_reducible exact ih2 _ _ _ _ _ _ _ _ _)
  | (with_reducible exact ih3 _ _ _ _ _)
  | (with_reducible exact spec_SuiteOk.mono _ _ _)
  | (with_reducible exact spec_l24Free.mono _ _ _ _ _ _)
  | (with_reducible exact spec_l24Running.mono _ _ _ _ _ _)
  | (with_reducible exact LeO.refl _)
  | (with_reducible exact LeO.none _)
  | (with_reducible refine LeO.ite ?_ ?_)
  | (with_reducible refine LeO.bind ?_ (fun _ => ?_))
  | exact ih0 _ _ _ _ _
  | exact ih1 _ _ _ _ _
  | exact ih2 _ _ _ _ _ _ _ _ _
  | exact ih3 _ _ _ _ _
  | exact spec_SuiteOk.mono _ _ _
  | exact spec_l24Free.mono _ _ _ _ _ _
  | exact spec_l24Running.mono _ _ _ _ _ _
  | exact LeO.none _
  | refine LeO.ite ?_ ?_
  | refine LeO.bind ?_ (fun _ => ?_)
theorem spec_l24Ok.mono : ∀ a0 a1 a2 a3 k, LeO (spec_l24Ok.f k a0 a1 a2 a3) (spec_l24Ok.f (k + 1) a0 a1 a2 a3) := by
 intro a0 a1 a2 a3 k
 obtain ⟨ih0, ih1, ih2, ih3⟩ := spec_l24Ok.mono_l k
 unfold spec_l24Ok.f
 repeat' first
   | (with_reducible exact ih0 _ _ _ _ _)
   | (with_reducible exact ih1 _ _ _ _ _)
   | (with_reducible exact ih2 _ _ _ _ _ _ _ _ _)
   | (with_reducible exact ih3 _ _ _ _ _)
   | (with_reducible exact spec_SuiteOk.mono _ _ _)
   | (with_reducible exact spec_l24Free.mono _ _ _ _ _ _)
   | (with_reducible exact spec_l24Running.mono _ _ _ _ _ _)
   | (with_reducible exact LeO.refl _)
   | (with_reducible exact LeO.none _)
   | (with_reducible refine LeO.ite ?_ ?_)
   | (with_reducible refine LeO.bind ?_ (fun _ => ?_))
   | exact ih0 _ _ _ _ _
   | exact ih1 _ _ _ _ _
   | exact ih2 _ _ _ _ _ _ _ _ _
   | exact ih3 _ _ _ _ _
   | exact spec_SuiteOk.mono _ _ _
   | exact spec_l24Free.mono _ _ _ _ _ _
   | exact spec_l24Running.mono _ _ _ _ _ _
   | exact LeO.none _
   | refine LeO.ite ?_ ?_
   | refine LeO.bind ?_ (fun _ => ?_)
def spec_l24Ok.T15 : Bool × List (List Nat × List Nat) := (true, [([], []), ([], []), ([1], [1]), ([0, 2], [0, 2]), ([], []), ([4], [4]), ([5], [5]), ([], []), ([6, 7], [6, 7]), ([8], [8]), ([3, 9], [3, 9])])
def spec_l24Ok.B15 : List Nat := [0, 0, 2, 7, 0, 16, 48, 0, 240, 496, 1023]
theorem spec_l24Ok.tab15 : rtab .any (opsOf Try.f58 15) = spec_l24Ok.T15 := by kernel_rfl
theorem spec_l24Ok.bits15 : waitsOk spec_l24Ok.T15.2 spec_l24Ok.B15 = true := by kernel_rfl
set_option maxHeartbeats 8000000 in
set_option maxRecDepth 100000 in
theorem spec_l24Ok.calls (k : Nat) (A0_0 : Option Addr) (c0_0 : Nat) (l0_0 : List (S39)) (A0_1 : Option Addr) (c0_1 : Nat) (l0_1 : List Int) (a0_2 : Int) (A0_3 : Option Addr) (c0_3 : Nat) (l0_3 : List (S43)) (r : Bool) (w : World) (hr0_0 : Kd.C k39 w A0_0 l0_0.length l0_0) (hc0_0 : l0_0.length ≤ c0_0) (hr0_1 : Kd.C (Kd.int .i64) w A0_1 l0_1.length l0_1) (hc0_1 : l0_1.length ≤ c0_1) (hr0_3 : Kd.C k43 w A0_3 l0_3.length l0_3) (hc0_3 : l0_3.length ≤ c0_3) (h : spec_l24Ok.f k l0_0 l0_1 a0_2 l0_3 = some r) :
  Calls Try.prog 58 #[.agg #[.slice A0_0 l0_0.length c0_0, .slice A0_1 l0_1.length c0_1, .int .i64 a0_2, .slice A0_3 l0_3.length c0_3]] w fun e w' => e = .returned (.bool r) ∧ Below w.heap.size w w' := by
 have hu31 := Try.underlying31; have hu27 := Try.underlying27; have hu43 := Try.underlying43; have HR0_0 := Aside0.mk hr0_0; have HC0_0 := Aside0.mk hc0_0; clear hr0_0 hc0_0; have HR0_1 := Aside0.mk hr0_1; have HC0_1 := Aside0.mk hc0_1; clear hr0_1 hc0_1; have HR0_3 := Aside0.mk hr0_3; have HC0_3 := Aside0.mk hc0_3; clear hr0_3 hc0_3
 have HB := Aside0.mk (Below.refl w.heap.size w)
 have H : ((spec_SuiteOk.f k l0_0 l0_1).bind fun t235 => (if t235 = true then ((spec_l2In.f a0_2 0 1000000000000).bind fun t236 => (if t236 = true then (spec_l24Ok.j0 k ((l0_3.length : Int) != (l0_0.length : Int)) l0_0 l0_1 a0_2 l0_3) else (spec_l24Ok.j0 k true l0_0 l0_1 a0_2 l0_3))) else (spec_l24Ok.j0 k true l0_0 l0_1 a0_2 l0_3))) = some r := h
 clear h; have HC2 := Aside0.mk H; clear H
 go_enter Try.func58, Try.ntmps58
 go_upto_region 1 with (first | ((with_reducible refine gate_dst (N := 1) rfl ?_); (try (refine gate_guard (by rfl) ?_; dsimp only)); refine box_event ?hg (N := 1) ?hd (cs := #[.slice A0_0 l0_0.length c0_0, .slice A0_1 l0_1.length c0_1, .int .i64 a0_2, .slice A0_3 l0_3.length c0_3]) (t := 31) ?hr ?_; (case hd => rfl); (case hg => rfl); (case hr => first | (go_simp; done) | (go_simp; rfl)); intro gb234 hg w3 hbox hb; have BK234 := Aside0.mk (hbox); have GW234 := gE_ HB hg; have GE234 := gE_ HB hg; replace HB := bS_ HB hb; clear hb hbox hg))
 (try simp only [Act.put, List.setIfInBounds_toArray, List.set_cons_zero, List.set_cons_succ])
 go_cut [26] (fun v26 wc => ∃ (kq : Nat) (x26_1 : Bool), v26 = .bool x26_1 ∧ Aside0 (spec_l24Ok.j0 kq x26_1 l0_0 l0_1 a0_2 l0_3 = some r) ∧ Aside0 (kq ≤ k) ∧ Aside0 (wc.heap[gb234]? = some (.cells #[(.slice A0_0 l0_0.length c0_0), (.slice A0_1 l0_1.length c0_1), .int .i64 a0_2, (.slice A0_3 l0_3.length c0_3)] 31 (0, 0))) ∧ Aside0 (Below w.heap.size w wc))
 case first =>
  have H := HC2.out; clear HC2; replace H := Option.bind_eq_some_iff.mp H
  obtain ⟨t235, A40, H⟩ := H
  replace H : (if t235 = true then ((spec_l2In.f a0_2 0 1000000000000).bind fun t236 => (if t236 = true then (spec_l24Ok.j0 k ((l0_3.length : Int) != (l0_0.length : Int)) l0_0 l0_1 a0_2 l0_3) else (spec_l24Ok.j0 k true l0_0 l0_1 a0_2 l0_3))) else (spec_l24Ok.j0 k true l0_0 l0_1 a0_2 l0_3)) = some r := H
  have A4 := Aside0.mk A40; clear A40
  by_cases c5 : t235 = true
  ·subst c5
   replace H := ifT_ H; replace H := Option.bind_eq_some_iff.mp H
   obtain ⟨t236, A60, H⟩ := H
   replace H : (if t236 = true then (spec_l24Ok.j0 k ((l0_3.length : Int) != (l0_0.length : Int)) l0_0 l0_1 a0_2 l0_3) else (spec_l24Ok.j0 k true l0_0 l0_1 a0_2 l0_3)) = some r := H
   have A6 := Aside0.mk A60; clear A60
   by_cases c7 : t236 = true
   ·subst c7
    replace H := ifT_ H; have H' := Aside0.mk H; clear H
    obtain ⟨hcz8_0, hcz8_1, hcz8_2, hcz8_3, hfz8_0, hfz8_1, hfz8_2, hfz8_3⟩ := cf4_ BK234
    go_wp2_with (first | ((with_reducible refine gate_callee (f := 44) rfl ?_); refine gL_ (some 9) Try.func44 #[.agg #[.slice A0_0 l0_0.length c0_0, .slice A0_1 l0_1.length c0_1]] ?_; (with_reducible refine (spec_SuiteOk.calls k _ _ l0_0 _ _ l0_1 true _ ?side1 ?side2 ?side3 ?side4 A4.out).mono ?_); (case side1 => exact cB_ HR0_0 HB); (case side2 => exact HC0_0.out); (case side3 => exact cB_ HR0_1 HB); (case side4 => exact HC0_1.out); rintro e w9 ⟨rfl, hb⟩; refine ⟨_, rfl, ?_⟩; replace BK234 := bB_ BK234 hb; replace HB := bS_ HB hb; (try clear hb); obtain ⟨hcz10_0, hcz10_1, hcz10_2, hcz10_3, hfz10_0, hfz10_1, hfz10_2, hfz10_3⟩ := cf4_ BK234) | (go_at_call 60; (with_reducible refine (spec_l2In.calls a0_2 0 1000000000000 true _ A6.out).mono ?_); rintro e w' ⟨rfl, ⟨nd, rfl⟩⟩))
    go_meet
    case rel => exact ⟨_, (((l0_3.length : Int) != (l0_0.length : Int))), (by first | rfl | (simp; done) | (simp [*]; done)), H', ⟨by first | omega | exact Nat.le_refl _⟩, ⟨bT_ BK234⟩, ⟨sABelo_12⟩⟩
   ·replace c7 := Bool.eq_false_iff.mpr c7
    subst c7
    replace H := ifF_ H; have H' := Aside0.mk H; clear H
    obtain ⟨hcz11_0, hcz11_1, hcz11_2, hcz11_3, hfz11_0, hfz11_1, hfz11_2, hfz11_3⟩ := cf4_ BK234
    go_wp2_with (first | ((with_reducible refine gate_callee (f := 44) rfl ?_); refine gL_ (some 9) Try.func44 #[.agg #[.slice A0_0 l0_0.length c0_0, .slice A0_1 l0_1.length c0_1]] ?_; (with_reducible refine (spec_SuiteOk.calls k _ _ l0_0 _ _ l0_1 true _ ?side1 ?side2 ?side3 ?side4 A4.out).mono ?_); (case side1 => exact cB_ HR0_0 HB); (case side2 => exact HC0_0.out); (case side3 => exact cB_ HR0_1 HB); (case side4 => exact HC0_1.out); rintro e w12 ⟨rfl, hb⟩; refine ⟨_, rfl, ?_⟩; replace BK234 := bB_ BK234 hb; replace HB := bS_ HB hb; (try clear hb); obtain ⟨hcz13_0, hcz13_1, hcz13_2, hcz13_3, hfz13_0, hfz13_1, hfz13_2, hfz13_3⟩ := cf4_ BK234) | (go_at_call 60; (with_reducible refine (spec_l2In.calls a0_2 0 1000000000000 false _ A6.out).mono ?_); rintro e w' ⟨rfl, ⟨nd, rfl⟩⟩))
    go_meet
    case rel => exact ⟨_, (true), (by first | rfl | (simp; done) | (simp [*]; done)), H', ⟨by first | omega | exact Nat.le_refl _⟩, ⟨bT_ BK234⟩, ⟨sABelo_12⟩⟩
  ·replace c5 := Bool.eq_false_iff.mpr c5
   subst c5
   replace H := ifF_ H; have H' := Aside0.mk H; clear H
   obtain ⟨hcz14_0, hcz14_1, hcz14_2, hcz14_3, hfz14_0, hfz14_1, hfz14_2, hfz14_3⟩ := cf4_ BK234
   go_wp2_with (first | ((with_reducible refine gate_callee (f := 44) rfl ?_); refine gL_ (some 9) Try.func44 #[.agg #[.slice A0_0 l0_0.length c0_0, .slice A0_1 l0_1.length c0_1]] ?_; (with_reducible refine (spec_SuiteOk.calls k _ _ l0_0 _ _ l0_1 false _ ?side1 ?side2 ?side3 ?side4 A4.out).mono ?_); (case side1 => exact cB_ HR0_0 HB); (case side2 => exact HC0_0.out); (case side3 => exact cB_ HR0_1 HB); (case side4 => exact HC0_1.out); rintro e w15 ⟨rfl, hb⟩; refine ⟨_, rfl, ?_⟩; replace BK234 := bB_ BK234 hb; replace HB := bS_ HB hb; (try clear hb)))
   go_meet
   case rel => exact ⟨_, (true), (by first | rfl | (simp; done) | (simp [*]; done)), H', ⟨by first | omega | exact Nat.le_refl _⟩, ⟨bT_ BK234⟩, ⟨sABelo_12⟩⟩
 case rest =>
  clear HC2
  obtain ⟨kq, x26_1, rfl, HA, HJ1, BK234, HB⟩ := hcut
  cases kq with
  | zero => exact absurd HA.out (by simp [spec_l24Ok.j0])
  | succ kj1 =>
   have H := HA.out; clear HA
   simp only [spec_l24Ok.j0] at H
   by_cases c16 : x26_1 = true
   ·subst c16
    replace H := ifT_ H
    obtain rfl := Option.some.inj H
    go_wp2
    go_ret
    exact ⟨by first | rfl | (simp [errW_none, errW_some] <;> rfl) | (simp [*, errW_none, errW_some] <;> rfl), sABelo_12⟩
   ·replace c16 := Bool.eq_false_iff.mpr c16
    subst c16
    replace H := ifF_ H; have H' := Aside0.mk H; clear H
    go_wp2
    go_loopg [3] kj1 (fun kq v3 w' => ∃ (x3_2 : Int), v3 = .int .i64 x3_2 ∧ Aside0 (spec_l24Ok.l0 kq x3_2 l0_0 l0_1 a0_2 l0_3 = some r) ∧ Aside0 (kq ≤ kj1) ∧ Aside0 (w'.heap[gb234]? = some (.cells #[(.slice A0_0 l0_0.length c0_0), (.slice A0_1 l0_1.length c0_1), .int .i64 a0_2, (.slice A0_3 l0_3.length c0_3)] 31 (0, 0))) ∧ Aside0 (Below w.heap.size w w'))
    case atStart => exact ⟨(0), (by first | rfl | (simp; done) | (simp [*]; done)), H', ⟨Nat.le_refl _⟩, ⟨bT_ BK234⟩, ⟨sABelo_12⟩⟩
    case round =>
     clear H'; (try clear c16)
     obtain ⟨x3_2, rfl, HA, HK2, BK234, HB⟩ := hrel
     cases gk with
     | zero => exact absurd HA.out (by simp [spec_l24Ok.l0])
     | succ k2 =>
      have H := HA.out; clear HA
      simp only [spec_l24Ok.l0] at H
      by_cases c17 : x3_2 < (l0_3.length : Int)
      ·rw [if_pos c17] at H
       have c17b0 := decide_eq_true c17
       clear c17
       obtain ⟨c18, H⟩ := ifS_ H
       have c18b0 : decide (0 ≤ x3_2) = true := decide_eq_true c18
       clear c18
       obtain ⟨c19, H⟩ := ifS_ H
       have c19b0 : decide (x3_2 < (l0_0.length : Int)) = true := decide_eq_true c19
       clear c19; have HC20 := Aside0.mk H; clear H
       obtain ⟨hcz21_0, hcz21_1, hcz21_2, hcz21_3, hfz21_0, hfz21_1, hfz21_2, hfz21_3⟩ := cf4_ BK234
       have p237 : 0 ≤ (x3_2 : Int) := dA_
       have q237 : x3_2 < (l0_3.length : Int) := dA_
       obtain ⟨ad237, e237, hx237_0, hx237_1⟩ := at_T43 HR0_3.out x3_2 p237 q237
       cases e237
       replace hx237_0 := hX_ HB hx237_0
       replace hx237_1 := hX_ HB hx237_1
       replace p237 := eq_true p237; replace q237 := eq_true q237
       go_upto_region 8 with (first | ((with_reducible refine gate_dst (N := 4) rfl ?_); (try (refine gate_guard (by rfl) ?_; dsimp only)); refine box_event ?hg (N := 4) ?hd (cs := #[.int .i64 0, .int .i64 0]) (t := 43) ?hr ?_; (case hd => rfl); (case hg => rfl); (case hr => first | (go_simp; done) | (go_simp; rfl)); intro gb238 hg w22 hbox hb; have BK238 := Aside0.mk (hbox); have GW238 := gE_ HB hg; have GE238 := gE_ HB hg; replace HB := bS_ HB hb; have NB234_238 := nL_ BK234 hg; have NB238_234 := nG_ BK234 hg; replace BK234 := bB_ BK234 hb; clear hb hbox hg; have hnb23 := NB238_234.out; have hnc23 := NB234_238.out; obtain ⟨hcz24_0, hcz24_1, hfz24_0, hfz24_1⟩ := cf2_ BK238; obtain ⟨hcz25_0, hcz25_1, hcz25_2, hcz25_3, hfz25_0, hfz25_1, hfz25_2, hfz25_3⟩ := cf4_ BK234; have p239 : 0 ≤ (x3_2 : Int) := dA_; have q239 : x3_2 < (l0_0.length : Int) := dA_; obtain ⟨ad239, A239_0, c239_0, e239, hx239_0, hx239_1, hx239_2, hx239_3, hl239_0, hi239_0⟩ := at_T39 HR0_0.out x3_2 p239 q239; cases e239; have hn239_0 : ad239.block ≠ gb238 := Nat.ne_of_lt (Nat.lt_of_lt_of_le (by have := World.block_lt_of_cell? _ _ hx239_0; first | rwa [add_block] at this | exact this) GW238.out); have hn239_1 : ad239.block ≠ gb238 := Nat.ne_of_lt (Nat.lt_of_lt_of_le (by have := World.block_lt_of_cell? _ _ hx239_0; first | rwa [add_block] at this | exact this) GW238.out); replace hx239_0 := hX_ HB hx239_0; replace hx239_1 := hX_ HB hx239_1; replace hx239_2 := hX_ HB hx239_2; replace hx239_3 := hX_ HB hx239_3; have HR239_0 := Aside0.mk hi239_0; have HC239_0 := Aside0.mk hl239_0; clear hi239_0 hl239_0; replace hx239_0 := cFr_ hx239_0 ⟨gb238, 0, none⟩ (.int .i64 ((rd_T43 l0_3 x3_2).f0)) hn239_0; replace hx239_1 := cFr_ hx239_1 ⟨gb238, 0, none⟩ (.int .i64 ((rd_T43 l0_3 x3_2).f0)) hn239_0; replace hx239_2 := cFr_ hx239_2 ⟨gb238, 0, none⟩ (.int .i64 ((rd_T43 l0_3 x3_2).f0)) hn239_0; replace hx239_3 := cFr_ hx239_3 ⟨gb238, 0, none⟩ (.int .i64 ((rd_T43 l0_3 x3_2).f0)) hn239_0; replace hx239_0 := cFr_ hx239_0 ⟨gb238, 1, none⟩ (.int .i64 ((rd_T43 l0_3 x3_2).f1)) hn239_1; replace hx239_1 := cFr_ hx239_1 ⟨gb238, 1, none⟩ (.int .i64 ((rd_T43 l0_3 x3_2).f1)) hn239_1; replace hx239_2 := cFr_ hx239_2 ⟨gb238, 1, none⟩ (.int .i64 ((rd_T43 l0_3 x3_2).f1)) hn239_1; replace hx239_3 := cFr_ hx239_3 ⟨gb238, 1, none⟩ (.int .i64 ((rd_T43 l0_3 x3_2).f1)) hn239_1; clear hn239_0; clear hn239_1; replace p239 := eq_true p239; replace q239 := eq_true q239))
       (try simp only [Act.put, List.setIfInBounds_toArray, List.set_cons_zero, List.set_cons_succ])
       go_cut [56] (fun v56 wc => ∃ (kq : Nat) (x56_19 : Bool), v56 = .bool x56_19 ∧ Aside0 (spec_l24Ok.j2 kq x3_2 ((rd_T39 l0_0 x3_2).f3) x56_19 l0_0 l0_1 a0_2 l0_3 ((rd_T43 l0_3 x3_2).f0) ((rd_T43 l0_3 x3_2).f1) = some r) ∧ Aside0 (kq ≤ k2) ∧ Aside0 (wc.heap[gb234]? = some (.cells #[(.slice (some ad239) l0_0.length c0_0), (.slice A0_1 l0_1.length c0_1), .int .i64 a0_2, (.slice (some ad237) l0_3.length c0_3)] 31 (0, 0))) ∧ Aside0 (wc.heap[gb238]? = some (.cells #[.int .i64 ((rd_T43 l0_3 x3_2).f0), .int .i64 ((rd_T43 l0_3 x3_2).f1)] 43 (0, 0))) ∧ Aside0 (Below w.heap.size w wc))
       case first =>
        have H := HC20.out; clear HC20; replace H := Option.bind_eq_some_iff.mp H
        obtain ⟨t240, A260, H⟩ := H
        replace H : (if t240 = true then ((spec_l2In.f ((rd_T43 l0_3 x3_2).f1) 0 ((rd_T39 l0_0 x3_2).f3)).bind fun t241 => (spec_l24Ok.j2 k2 x3_2 ((rd_T39 l0_0 x3_2).f3) (!t241) l0_0 l0_1 a0_2 l0_3 ((rd_T43 l0_3 x3_2).f0) ((rd_T43 l0_3 x3_2).f1))) else (spec_l24Ok.j2 k2 x3_2 ((rd_T39 l0_0 x3_2).f3) true l0_0 l0_1 a0_2 l0_3 ((rd_T43 l0_3 x3_2).f0) ((rd_T43 l0_3 x3_2).f1))) = some r := H
        have A26 := Aside0.mk A260; clear A260
        by_cases c27 : t240 = true
        ·subst c27
         replace H := ifT_ H; replace H := Option.bind_eq_some_iff.mp H
         obtain ⟨t241, A280, H⟩ := H
         replace H : (spec_l24Ok.j2 k2 x3_2 ((rd_T39 l0_0 x3_2).f3) (!t241) l0_0 l0_1 a0_2 l0_3 ((rd_T43 l0_3 x3_2).f0) ((rd_T43 l0_3 x3_2).f1)) = some r := H
         have A28 := Aside0.mk A280; clear A280; have H' := Aside0.mk H; clear H; have hnb29 := NB238_234.out; have hnc29 := NB234_238.out
         obtain ⟨hcz30_0, hcz30_1, hfz30_0, hfz30_1⟩ := cf2_ BK238
         go_wp2_with (first | ((with_reducible refine gate_callee (f := 60) rfl ?_); refine gL_ (some 48) Try.func60 #[.int .i64 ((rd_T43 l0_3 x3_2).f0), .int .i64 0, .int .i64 3] ?_; (with_reducible refine (spec_l2In.calls ((rd_T43 l0_3 x3_2).f0) 0 3 true _ A26.out).mono ?_); rintro e w' ⟨rfl, ⟨nd, rfl⟩⟩; refine ⟨_, rfl, ?_⟩) | (go_at_call 60; (with_reducible refine (spec_l2In.calls ((rd_T43 l0_3 x3_2).f1) 0 ((rd_T39 l0_0 x3_2).f3) t241 _ A28.out).mono ?_); rintro e w' ⟨rfl, ⟨nd, rfl⟩⟩))
         go_meet
         case rel => exact ⟨_, (!t241), (by first | rfl | (simp; done) | (simp [*]; done)), H', ⟨by have := HJ1.out; have := HK2.out; first | omega | exact Nat.le_refl _⟩, ⟨bF_ BK234 NB234_238⟩, ⟨bP_ BK238⟩, ⟨sABelo_12⟩⟩
        ·replace c27 := Bool.eq_false_iff.mpr c27
         subst c27
         replace H := ifF_ H; have H' := Aside0.mk H; clear H; have hnb31 := NB238_234.out; have hnc31 := NB234_238.out
         obtain ⟨hcz32_0, hcz32_1, hfz32_0, hfz32_1⟩ := cf2_ BK238
         go_wp2_with (first | ((with_reducible refine gate_callee (f := 60) rfl ?_); refine gL_ (some 48) Try.func60 #[.int .i64 ((rd_T43 l0_3 x3_2).f0), .int .i64 0, .int .i64 3] ?_; (with_reducible refine (spec_l2In.calls ((rd_T43 l0_3 x3_2).f0) 0 3 false _ A26.out).mono ?_); rintro e w' ⟨rfl, ⟨nd, rfl⟩⟩; refine ⟨_, rfl, ?_⟩))
         go_meet
         case rel => exact ⟨_, (true), (by first | rfl | (simp; done) | (simp [*]; done)), H', ⟨by have := HJ1.out; have := HK2.out; first | omega | exact Nat.le_refl _⟩, ⟨bF_ BK234 NB234_238⟩, ⟨bP_ BK238⟩, ⟨sABelo_12⟩⟩
       case rest =>
        clear HC20; (try clear c16); (try clear c17); (try clear c17b0); (try clear c18); (try clear c18b0); (try clear c19); (try clear c19b0); (try clear hcz21_0); (try clear hcz21_1); (try clear hcz21_2); (try clear hcz21_3); (try clear hcz24_0); (try clear hcz24_1); (try clear hcz25_0); (try clear hcz25_1); (try clear hcz25_2); (try clear hcz25_3); (try clear hfz21_0); (try clear hfz21_1); (try clear hfz21_2); (try clear hfz21_3); (try clear hfz24_0); (try clear hfz24_1); (try clear hfz25_0); (try clear hfz25_1); (try clear hfz25_2); (try clear hfz25_3); (try clear hx237_0); (try clear hx237_1); (try clear hx239_0); (try clear hx239_1); (try clear hx239_2); (try clear hx239_3); (try clear p237); (try clear p239); (try clear q237); (try clear q239)
        obtain ⟨kq, x56_19, rfl, HA, HJ19, BK234, BK238, HB⟩ := hcut
        cases kq with
        | zero => exact absurd HA.out (by simp [spec_l24Ok.j2])
        | succ kj19 =>
         have H := HA.out; clear HA
         simp only [spec_l24Ok.j2] at H
         by_cases c33 : x56_19 = true
         ·subst c33
          replace H := ifT_ H
          obtain rfl := Option.some.inj H
          go_wp2
          go_ret
          exact ⟨by first | rfl | (simp [errW_none, errW_some] <;> rfl) | (simp [*, errW_none, errW_some] <;> rfl), sABelo_12⟩
         ·replace c33 := Bool.eq_false_iff.mpr c33
          subst c33
          replace H := ifF_ H
          by_cases c34 : ((rd_T43 l0_3 x3_2).f0) = 0
          ·rw [if_pos c34] at H
           have c34b0 := beq_iff_eq.mpr c34
           have c34b1 := bne_eq_false_iff_eq.mpr c34
           clear c34
           by_cases c35 : ((rd_T43 l0_3 x3_2).f1) = ((rd_T39 l0_0 x3_2).f3)
           ·rw [if_pos c35] at H
            have c35b0 := beq_iff_eq.mpr c35
            have c35b1 := bne_eq_false_iff_eq.mpr c35
            clear c35
            obtain rfl := Option.some.inj H
            have hnb36 := NB238_234.out; have hnc36 := NB234_238.out
            obtain ⟨hcz37_0, hcz37_1, hfz37_0, hfz37_1⟩ := cf2_ BK238
            go_wp2
            go_ret
            exact ⟨by first | rfl | (simp [errW_none, errW_some] <;> rfl) | (simp [*, errW_none, errW_some] <;> rfl), sABelo_12⟩
           ·rw [if_neg c35] at H
            have c35b0 := beq_eq_false_iff_ne.mpr c35
            have c35b1 := bne_iff_ne.mpr c35
            by_cases c38 : ((rd_T43 l0_3 x3_2).f0) = 3
            ·rw [if_pos c38] at H
             have c38b0 := beq_iff_eq.mpr c38
             have c38b1 := bne_eq_false_iff_eq.mpr c38
             clear c38
             obtain rfl := Option.some.inj H
             have hnb39 := NB238_234.out; have hnc39 := NB234_238.out
             obtain ⟨hcz40_0, hcz40_1, hfz40_0, hfz40_1⟩ := cf2_ BK238
             go_wp2
             go_ret
             exact ⟨by first | rfl | (simp [errW_none, errW_some] <;> rfl) | (simp [*, errW_none, errW_some] <;> rfl), sABelo_12⟩
            ·rw [if_neg c38] at H
             have c38b0 := beq_eq_false_iff_ne.mpr c38
             have c38b1 := bne_iff_ne.mpr c38
             have H' := Aside0.mk H; clear H; have hnb41 := NB238_234.out; have hnc41 := NB234_238.out
             obtain ⟨hcz42_0, hcz42_1, hfz42_0, hfz42_1⟩ := cf2_ BK238
             go_wp2
             go_roundg kj19
             case measure => have := HJ1.out; have := HK2.out; have := HJ19.out; omega
             case rel => exact ⟨(wrap64 (x3_2 + 1)), (by first | rfl | (simp; done) | (simp [*]; done)), H', ⟨by have := HJ1.out; have := HK2.out; have := HJ19.out; omega⟩, ⟨bT_ BK234⟩, ⟨sABelo_12⟩⟩
          ·rw [if_neg c34] at H
           have c34b0 := beq_eq_false_iff_ne.mpr c34
           have c34b1 := bne_iff_ne.mpr c34
           by_cases c43 : ((rd_T43 l0_3 x3_2).f0) = 3
           ·rw [if_pos c43] at H
            have c43b0 := beq_iff_eq.mpr c43
            have c43b1 := bne_eq_false_iff_eq.mpr c43
            clear c43
            by_cases c44 : ((rd_T43 l0_3 x3_2).f1) = ((rd_T39 l0_0 x3_2).f3)
            ·rw [if_pos c44] at H
             have c44b0 := beq_iff_eq.mpr c44
             have c44b1 := bne_eq_false_iff_eq.mpr c44
             clear c44
             by_cases c45 : ((rd_T43 l0_3 x3_2).f1) = 0
             ·rw [if_pos c45] at H
              have c45b0 := beq_iff_eq.mpr c45
              have c45b1 := bne_eq_false_iff_eq.mpr c45
              clear c45
              obtain rfl := Option.some.inj H
              have hnb46 := NB238_234.out; have hnc46 := NB234_238.out
              obtain ⟨hcz47_0, hcz47_1, hfz47_0, hfz47_1⟩ := cf2_ BK238
              go_wp2
              go_ret
              exact ⟨by first | rfl | (simp [errW_none, errW_some] <;> rfl) | (simp [*, errW_none, errW_some] <;> rfl), sABelo_12⟩
             ·rw [if_neg c45] at H
              have c45b0 := beq_eq_false_iff_ne.mpr c45
              have c45b1 := bne_iff_ne.mpr c45
              replace H := Option.bind_eq_some_iff.mp H
              obtain ⟨t242, A480, H⟩ := H
              replace H : (if t242 = true then (spec_l24Ok.l0 kj19 (wrap64 (x3_2 + 1)) l0_0 l0_1 a0_2 l0_3) else (some false)) = some r := H
              have A48 := Aside0.mk A480; clear A480
              by_cases c49 : t242 = true
              ·subst c49
               replace H := ifT_ H; have H' := Aside0.mk H; clear H; have hnb50 := NB238_234.out; have hnc50 := NB234_238.out
               obtain ⟨hcz51_0, hcz51_1, hfz51_0, hfz51_1⟩ := cf2_ BK238
               obtain ⟨hcz52_0, hcz52_1, hcz52_2, hcz52_3, hfz52_0, hfz52_1, hfz52_2, hfz52_3⟩ := cf4_ BK234
               go_wp2_with (first | (go_at_call 74; (with_reducible refine (spec_l24Free.calls kj19 _ _ l0_0 _ _ l0_1 a0_2 _ _ l0_3 x3_2 true _ ?side1 ?side2 ?side3 ?side4 ?side5 ?side6 A48.out).mono ?_); (case side1 => exact cB_ HR0_0 HB); (case side2 => exact HC0_0.out); (case side3 => exact cB_ HR0_1 HB); (case side4 => exact HC0_1.out); (case side5 => exact cB_ HR0_3 HB); (case side6 => exact HC0_3.out); rintro e w53 ⟨rfl, hb⟩; replace BK234 := bB_ BK234 hb; replace BK238 := bB_ BK238 hb; replace HB := bS_ HB hb; (try clear hb)))
               go_roundg kj19
               case measure => have := HJ1.out; have := HK2.out; have := HJ19.out; omega
               case rel => exact ⟨(wrap64 (x3_2 + 1)), (by first | rfl | (simp; done) | (simp [*]; done)), H', ⟨by have := HJ1.out; have := HK2.out; have := HJ19.out; omega⟩, ⟨bT_ BK234⟩, ⟨sABelo_12⟩⟩
              ·replace c49 := Bool.eq_false_iff.mpr c49
               subst c49
               replace H := ifF_ H
               obtain rfl := Option.some.inj H
               have hnb54 := NB238_234.out; have hnc54 := NB234_238.out
               obtain ⟨hcz55_0, hcz55_1, hfz55_0, hfz55_1⟩ := cf2_ BK238
               obtain ⟨hcz56_0, hcz56_1, hcz56_2, hcz56_3, hfz56_0, hfz56_1, hfz56_2, hfz56_3⟩ := cf4_ BK234
               go_wp2_with (first | (go_at_call 74; (with_reducible refine (spec_l24Free.calls kj19 _ _ l0_0 _ _ l0_1 a0_2 _ _ l0_3 x3_2 false _ ?side1 ?side2 ?side3 ?side4 ?side5 ?side6 A48.out).mono ?_); (case side1 => exact cB_ HR0_0 HB); (case side2 => exact HC0_0.out); (case side3 => exact cB_ HR0_1 HB); (case side4 => exact HC0_1.out); (case side5 => exact cB_ HR0_3 HB); (case side6 => exact HC0_3.out); rintro e w57 ⟨rfl, hb⟩; replace BK234 := bB_ BK234 hb; replace BK238 := bB_ BK238 hb; replace HB := bS_ HB hb; (try clear hb)))
               go_ret
               exact ⟨by first | rfl | (simp [errW_none, errW_some] <;> rfl) | (simp [*, errW_none, errW_some] <;> rfl), sABelo_12⟩
            ·rw [if_neg c44] at H
             have c44b0 := beq_eq_false_iff_ne.mpr c44
             have c44b1 := bne_iff_ne.mpr c44
             obtain rfl := Option.some.inj H
             have hnb58 := NB238_234.out; have hnc58 := NB234_238.out
             obtain ⟨hcz59_0, hcz59_1, hfz59_0, hfz59_1⟩ := cf2_ BK238
             go_wp2
             go_ret
             exact ⟨by first | rfl | (simp [errW_none, errW_some] <;> rfl) | (simp [*, errW_none, errW_some] <;> rfl), sABelo_12⟩
           ·rw [if_neg c43] at H
            have c43b0 := beq_eq_false_iff_ne.mpr c43
            have c43b1 := bne_iff_ne.mpr c43
            by_cases c60 : ((rd_T43 l0_3 x3_2).f1) = 0
            ·rw [if_pos c60] at H
             have c60b0 := beq_iff_eq.mpr c60
             have c60b1 := bne_eq_false_iff_eq.mpr c60
             clear c60
             obtain rfl := Option.some.inj H
             have hnb61 := NB238_234.out; have hnc61 := NB234_238.out
             obtain ⟨hcz62_0, hcz62_1, hfz62_0, hfz62_1⟩ := cf2_ BK238
             go_wp2
             go_ret
             exact ⟨by first | rfl | (simp [errW_none, errW_some] <;> rfl) | (simp [*, errW_none, errW_some] <;> rfl), sABelo_12⟩
            ·rw [if_neg c60] at H
             have c60b0 := beq_eq_false_iff_ne.mpr c60
             have c60b1 := bne_iff_ne.mpr c60
             replace H := Option.bind_eq_some_iff.mp H
             obtain ⟨t243, A630, H⟩ := H
             replace H : (if t243 = true then (spec_l24Ok.l0 kj19 (wrap64 (x3_2 + 1)) l0_0 l0_1 a0_2 l0_3) else (some false)) = some r := H
             have A63 := Aside0.mk A630; clear A630
             by_cases c64 : t243 = true
             ·subst c64
              replace H := ifT_ H; have H' := Aside0.mk H; clear H; have hnb65 := NB238_234.out; have hnc65 := NB234_238.out
              obtain ⟨hcz66_0, hcz66_1, hfz66_0, hfz66_1⟩ := cf2_ BK238
              obtain ⟨hcz67_0, hcz67_1, hcz67_2, hcz67_3, hfz67_0, hfz67_1, hfz67_2, hfz67_3⟩ := cf4_ BK234
              go_wp2_with (first | (go_at_call 74; (with_reducible refine (spec_l24Free.calls kj19 _ _ l0_0 _ _ l0_1 a0_2 _ _ l0_3 x3_2 true _ ?side1 ?side2 ?side3 ?side4 ?side5 ?side6 A63.out).mono ?_); (case side1 => exact cB_ HR0_0 HB); (case side2 => exact HC0_0.out); (case side3 => exact cB_ HR0_1 HB); (case side4 => exact HC0_1.out); (case side5 => exact cB_ HR0_3 HB); (case side6 => exact HC0_3.out); rintro e w68 ⟨rfl, hb⟩; replace BK234 := bB_ BK234 hb; replace BK238 := bB_ BK238 hb; replace HB := bS_ HB hb; (try clear hb)))
              go_roundg kj19
              case measure => have := HJ1.out; have := HK2.out; have := HJ19.out; omega
              case rel => exact ⟨(wrap64 (x3_2 + 1)), (by first | rfl | (simp; done) | (simp [*]; done)), H', ⟨by have := HJ1.out; have := HK2.out; have := HJ19.out; omega⟩, ⟨bT_ BK234⟩, ⟨sABelo_12⟩⟩
             ·replace c64 := Bool.eq_false_iff.mpr c64
              subst c64
              replace H := ifF_ H
              obtain rfl := Option.some.inj H
              have hnb69 := NB238_234.out; have hnc69 := NB234_238.out
              obtain ⟨hcz70_0, hcz70_1, hfz70_0, hfz70_1⟩ := cf2_ BK238
              obtain ⟨hcz71_0, hcz71_1, hcz71_2, hcz71_3, hfz71_0, hfz71_1, hfz71_2, hfz71_3⟩ := cf4_ BK234
              go_wp2_with (first | (go_at_call 74; (with_reducible refine (spec_l24Free.calls kj19 _ _ l0_0 _ _ l0_1 a0_2 _ _ l0_3 x3_2 false _ ?side1 ?side2 ?side3 ?side4 ?side5 ?side6 A63.out).mono ?_); (case side1 => exact cB_ HR0_0 HB); (case side2 => exact HC0_0.out); (case side3 => exact cB_ HR0_1 HB); (case side4 => exact HC0_1.out); (case side5 => exact cB_ HR0_3 HB); (case side6 => exact HC0_3.out); rintro e w72 ⟨rfl, hb⟩; replace BK234 := bB_ BK234 hb; replace BK238 := bB_ BK238 hb; replace HB := bS_ HB hb; (try clear hb)))
              go_ret
              exact ⟨by first | rfl | (simp [errW_none, errW_some] <;> rfl) | (simp [*, errW_none, errW_some] <;> rfl), sABelo_12⟩
      ·rw [if_neg c17] at H
       have c17b0 := decide_eq_false c17
       clear c17; have H' := Aside0.mk H; clear H
       obtain ⟨hcz73_0, hcz73_1, hcz73_2, hcz73_3, hfz73_0, hfz73_1, hfz73_2, hfz73_3⟩ := cf4_ BK234
       go_wp2
       go_loopg [6] k2 (fun kq v6 w' => ∃ (x6_3 : Int), v6 = .int .i64 x6_3 ∧ Aside0 (spec_l24Ok.l1 kq x6_3 l0_0 l0_1 a0_2 l0_3 = some r) ∧ Aside0 (kq ≤ k2) ∧ Aside0 (w'.heap[gb234]? = some (.cells #[(.slice A0_0 l0_0.length c0_0), (.slice A0_1 l0_1.length c0_1), .int .i64 a0_2, (.slice A0_3 l0_3.length c0_3)] 31 (0, 0))) ∧ Aside0 (Below w.heap.size w w'))
       case atStart => exact ⟨(0), (by first | rfl | (simp; done) | (simp [*]; done)), H', ⟨Nat.le_refl _⟩, ⟨bT_ BK234⟩, ⟨sABelo_12⟩⟩
       case round =>
        clear H'; (try clear c16); (try clear c17); (try clear c17b0); (try clear hcz73_0); (try clear hcz73_1); (try clear hcz73_2); (try clear hcz73_3)
        (try clear hfz73_0); (try clear hfz73_1); (try clear hfz73_2); (try clear hfz73_3)
        obtain ⟨x6_3, rfl, HA, HK3, BK234, HB⟩ := hrel
        cases gk with
        | zero => exact absurd HA.out (by simp [spec_l24Ok.l1])
        | succ k3 =>
         have H := HA.out; clear HA
         simp only [spec_l24Ok.l1] at H
         by_cases c74 : x6_3 < (l0_1.length : Int)
         ·rw [if_pos c74] at H
          have c74b0 := decide_eq_true c74
          clear c74; replace H := Option.bind_eq_some_iff.mp H
          obtain ⟨t244, A750, H⟩ := H
          replace H : (if 0 ≤ x6_3 then (if t244 > (rd l0_1 x6_3) then (some false) else (spec_l24Ok.l1 k3 (wrap64 (x6_3 + 1)) l0_0 l0_1 a0_2 l0_3)) else (none)) = some r := H
          have A75 := Aside0.mk A750; clear A750
          obtain ⟨c76, H⟩ := ifS_ H
          have c76b0 : decide (0 ≤ x6_3) = true := decide_eq_true c76
          clear c76
          by_cases c77 : t244 > (rd l0_1 x6_3)
          ·rw [if_pos c77] at H
           have c77b0 : decide ((rd l0_1 x6_3) < t244) = true := decide_eq_true c77
           clear c77
           obtain rfl := Option.some.inj H
           obtain ⟨hcz78_0, hcz78_1, hcz78_2, hcz78_3, hfz78_0, hfz78_1, hfz78_2, hfz78_3⟩ := cf4_ BK234
           try go_wp2
           replace BK234 := Aside0.mk (blk_drew BK234.out)
           replace HB := Aside0.mk (below_drew1 HB.out)
           have p245 : 0 ≤ (x6_3 : Int) := dA_
           have q245 : x6_3 < (l0_1.length : Int) := dA_
           obtain ⟨ad245, e245, hx245_0⟩ := Kd.at_int HR0_1.out x6_3 p245 q245
           have hw245_0 := hx245_0
           cases e245
           replace hx245_0 := hX_ HB hx245_0
           replace p245 := eq_true p245; replace q245 := eq_true q245
           refine start_ (n := 11) (S := fun w' => w'.cell? ⟨gb234, 0, none⟩ = some (.slice A0_0 l0_0.length c0_0) ∧ w'.cell? ⟨gb234, 1, none⟩ = some (.slice (some ad245) l0_1.length c0_1) ∧ w'.cell? ⟨gb234, 2, none⟩ = some (.int .i64 a0_2) ∧ w'.cell? ⟨gb234, 3, none⟩ = some (.slice A0_3 l0_3.length c0_3) ∧ w'.cell? (ad245.add (x6_3).toNat) = some (.int .i64 (rd l0_1 x6_3))) (ds := []) #[false, false, false, false, false, false, false, false, false, false, false] (by kernel_rfl) rfl rfl ⟨(blk_cell BK234.out 0).trans rfl, (blk_cell BK234.out 1).trans rfl, (blk_cell BK234.out 2).trans rfl, (blk_cell BK234.out 3).trans rfl, ((HB.out.cell (World.block_lt_of_cell? w _ hw245_0)).trans hw245_0)⟩ (fun hHeld => ?_); refine with_tabW spec_l24Ok.tab15 spec_l24Ok.bits15 (fun HT_ HW_ => ?_)
           generalize wr.drew = w79 at BK234 HB hx245_0 hHeld ⊢
           refine pT_ 1 (some 102) #[false, true, false, false, false, false, false, false, false, false, false] HT_ ?_
           refine pT_ 2 (some 103) #[false, true, true, false, false, false, false, false, false, false, false] HT_ ?_
           refine pT_ 4 (some 105) #[false, true, true, false, true, false, false, false, false, false, false] HT_ ?_
           refine pT_ 5 (some 106) #[false, true, true, false, true, true, false, false, false, false, false] HT_ ?_
           refine pT_ 7 (some 108) #[false, true, true, false, true, true, false, true, false, false, false] HT_ ?_
           refine tT_ 0 (some 101) #[true, true, true, false, true, true, false, true, false, false, false] HT_ HW_ hHeld ?_ (hy := by rintro w' ⟨s0, s1, s2, s3, s4⟩; go_simp; with_reducible rfl)
           refine tT_ 6 (some 107) #[true, true, true, false, true, true, true, true, false, false, false] HT_ HW_ hHeld ?_ (hy := by rintro w' ⟨s0, s1, s2, s3, s4⟩; go_simp; with_reducible rfl)
           refine pT_ 8 (some 109) #[true, true, true, false, true, true, true, true, true, false, false] HT_ ?_
           refine tT_ 9 (some 110) #[true, true, true, false, true, true, true, true, true, true, false] HT_ HW_ hHeld ?_ (hy := by rintro w' ⟨s0, s1, s2, s3, s4⟩; go_simp; with_reducible rfl)
           refine one_ (i := 3) (N := some 104) #[true, true, true, true, true, true, true, true, true, true, false] rfl rfl (one_of HT_.out (by kernel_rfl)) (by decide) (fun K hK => ?_)
           refine goes_ Try.func75 (by kernel_rfl) rfl #[.agg #[.slice A0_0 l0_0.length c0_0, .slice (some ad245) l0_1.length c0_1, .int .i64 a0_2, .slice A0_3 l0_3.length c0_3], .int .i64 (wrap64 (x6_3 + 1))] (by rfl) rfl rfl (by (try simp only [List.map_toArray, List.map_cons, List.map_nil]); first | done | rfl | (simp only [List.length_drop, List.length_take]; rfl)) ?_
           with_reducible refine (spec_l24Running.calls k3 _ _ l0_0 _ _ l0_1 a0_2 _ _ l0_3 (wrap64 (x6_3 + 1)) t244 _ ?side1 ?side2 ?side3 ?side4 ?side5 ?side6 A75.out).mono ?_
           (case side1 => exact cB_ HR0_0 HB)
           (case side2 => exact HC0_0.out)
           (case side3 => exact cB_ HR0_1 HB)
           (case side4 => exact HC0_1.out)
           (case side5 => exact cB_ HR0_3 HB)
           (case side6 => exact HC0_3.out)
           rintro e w80 ⟨rfl, hb⟩
           refine ⟨_, rfl, ?_⟩
           replace BK234 := bB_ BK234 hb; replace HB := bS_ HB hb; (try clear hb)
           refine hK.out _ _ ⟨(blk_cell BK234.out 0).trans rfl, (blk_cell BK234.out 1).trans rfl, (blk_cell BK234.out 2).trans rfl, (blk_cell BK234.out 3).trans rfl, ((HB.out.cell (World.block_lt_of_cell? w _ hw245_0)).trans hw245_0)⟩ (fun hHeld => ?_)
           clear hK K
           refine nS_ (some 104) ?_
           refine pT_ 10 (some 111) #[true, true, true, true, true, true, true, true, true, true, true] HT_ ?_
           refine done_ (done_of HT_.out (by kernel_rfl)) ?_
           try go_wp2
           go_ret
           exact ⟨by first | rfl | (simp [errW_none, errW_some] <;> rfl) | (simp [*, errW_none, errW_some] <;> rfl), sABelo_12⟩
          ·rw [if_neg c77] at H
           have c77b0 : decide ((rd l0_1 x6_3) < t244) = false := decide_eq_false c77
           clear c77; have H' := Aside0.mk H; clear H
           obtain ⟨hcz81_0, hcz81_1, hcz81_2, hcz81_3, hfz81_0, hfz81_1, hfz81_2, hfz81_3⟩ := cf4_ BK234
           try go_wp2
           replace BK234 := Aside0.mk (blk_drew BK234.out)
           replace HB := Aside0.mk (below_drew1 HB.out)
           have p245 : 0 ≤ (x6_3 : Int) := dA_
           have q245 : x6_3 < (l0_1.length : Int) := dA_
           obtain ⟨ad245, e245, hx245_0⟩ := Kd.at_int HR0_1.out x6_3 p245 q245
           have hw245_0 := hx245_0
           cases e245
           replace hx245_0 := hX_ HB hx245_0
           replace p245 := eq_true p245; replace q245 := eq_true q245
           refine start_ (n := 11) (S := fun w' => w'.cell? ⟨gb234, 0, none⟩ = some (.slice A0_0 l0_0.length c0_0) ∧ w'.cell? ⟨gb234, 1, none⟩ = some (.slice (some ad245) l0_1.length c0_1) ∧ w'.cell? ⟨gb234, 2, none⟩ = some (.int .i64 a0_2) ∧ w'.cell? ⟨gb234, 3, none⟩ = some (.slice A0_3 l0_3.length c0_3) ∧ w'.cell? (ad245.add (x6_3).toNat) = some (.int .i64 (rd l0_1 x6_3))) (ds := []) #[false, false, false, false, false, false, false, false, false, false, false] (by kernel_rfl) rfl rfl ⟨(blk_cell BK234.out 0).trans rfl, (blk_cell BK234.out 1).trans rfl, (blk_cell BK234.out 2).trans rfl, (blk_cell BK234.out 3).trans rfl, ((HB.out.cell (World.block_lt_of_cell? w _ hw245_0)).trans hw245_0)⟩ (fun hHeld => ?_); refine with_tabW spec_l24Ok.tab15 spec_l24Ok.bits15 (fun HT_ HW_ => ?_)
           generalize wr.drew = w82 at BK234 HB hx245_0 hHeld ⊢
           refine pT_ 1 (some 102) #[false, true, false, false, false, false, false, false, false, false, false] HT_ ?_
           refine pT_ 2 (some 103) #[false, true, true, false, false, false, false, false, false, false, false] HT_ ?_
           refine pT_ 4 (some 105) #[false, true, true, false, true, false, false, false, false, false, false] HT_ ?_
           refine pT_ 5 (some 106) #[false, true, true, false, true, true, false, false, false, false, false] HT_ ?_
           refine pT_ 7 (some 108) #[false, true, true, false, true, true, false, true, false, false, false] HT_ ?_
           refine tT_ 0 (some 101) #[true, true, true, false, true, true, false, true, false, false, false] HT_ HW_ hHeld ?_ (hy := by rintro w' ⟨s0, s1, s2, s3, s4⟩; go_simp; with_reducible rfl)
           refine tT_ 6 (some 107) #[true, true, true, false, true, true, true, true, false, false, false] HT_ HW_ hHeld ?_ (hy := by rintro w' ⟨s0, s1, s2, s3, s4⟩; go_simp; with_reducible rfl)
           refine pT_ 8 (some 109) #[true, true, true, false, true, true, true, true, true, false, false] HT_ ?_
           refine tT_ 9 (some 110) #[true, true, true, false, true, true, true, true, true, true, false] HT_ HW_ hHeld ?_ (hy := by rintro w' ⟨s0, s1, s2, s3, s4⟩; go_simp; with_reducible rfl)
           refine one_ (i := 3) (N := some 104) #[true, true, true, true, true, true, true, true, true, true, false] rfl rfl (one_of HT_.out (by kernel_rfl)) (by decide) (fun K hK => ?_)
           refine goes_ Try.func75 (by kernel_rfl) rfl #[.agg #[.slice A0_0 l0_0.length c0_0, .slice (some ad245) l0_1.length c0_1, .int .i64 a0_2, .slice A0_3 l0_3.length c0_3], .int .i64 (wrap64 (x6_3 + 1))] (by rfl) rfl rfl (by (try simp only [List.map_toArray, List.map_cons, List.map_nil]); first | done | rfl | (simp only [List.length_drop, List.length_take]; rfl)) ?_
           with_reducible refine (spec_l24Running.calls k3 _ _ l0_0 _ _ l0_1 a0_2 _ _ l0_3 (wrap64 (x6_3 + 1)) t244 _ ?side1 ?side2 ?side3 ?side4 ?side5 ?side6 A75.out).mono ?_
           (case side1 => exact cB_ HR0_0 HB)
           (case side2 => exact HC0_0.out)
           (case side3 => exact cB_ HR0_1 HB)
           (case side4 => exact HC0_1.out)
           (case side5 => exact cB_ HR0_3 HB)
           (case side6 => exact HC0_3.out)
           rintro e w83 ⟨rfl, hb⟩
           refine ⟨_, rfl, ?_⟩
           replace BK234 := bB_ BK234 hb; replace HB := bS_ HB hb; (try clear hb)
           refine hK.out _ _ ⟨(blk_cell BK234.out 0).trans rfl, (blk_cell BK234.out 1).trans rfl, (blk_cell BK234.out 2).trans rfl, (blk_cell BK234.out 3).trans rfl, ((HB.out.cell (World.block_lt_of_cell? w _ hw245_0)).trans hw245_0)⟩ (fun hHeld => ?_)
           clear hK K
           refine nS_ (some 104) ?_
           refine pT_ 10 (some 111) #[true, true, true, true, true, true, true, true, true, true, true] HT_ ?_
           refine done_ (done_of HT_.out (by kernel_rfl)) ?_
           try go_wp2
           go_roundg k3
           case measure => have := HJ1.out; have := HK2.out; have := HK3.out; omega
           case rel => exact ⟨(wrap64 (x6_3 + 1)), (by first | rfl | (simp; done) | (simp [*]; done)), H', ⟨by have := HJ1.out; have := HK2.out; have := HK3.out; omega⟩, ⟨bT_ BK234⟩, ⟨sABelo_12⟩⟩
         ·rw [if_neg c74] at H
          have c74b0 := decide_eq_false c74
          clear c74
          obtain rfl := Option.some.inj H
          obtain ⟨hcz84_0, hcz84_1, hcz84_2, hcz84_3, hfz84_0, hfz84_1, hfz84_2, hfz84_3⟩ := cf4_ BK234
          go_wp2
          go_ret
          exact ⟨by first | rfl | (simp [errW_none, errW_some] <;> rfl) | (simp [*, errW_none, errW_some] <;> rfl), sABelo_12⟩

end Go.Proofs.Ytjoghfehmhapbaa.QFnExactStuck
