-- Written by a program of this session out of the printer's texts and contracts of its own.
import Derived.Test.YtcjhbmjimjbphaaQFnExactDescendx0
import Derived.Test.YtcjhbmjimjbphaaQFnExactDescendx1
import Derived.Test.YtcjhbmjimjbphaaQFnExactDescendx2
import Derived.Test.YtcjhbmjimjbphaaQFnExactDescendx6
import Derived.Test.YtcjhbmjimjbphaaQFnExactDescendx10
import Derived.Test.YtcjhbmjimjbphaaQFnExactDescendx11
import Derived.Test.YtcjhbmjimjbphaaMarksPFnExactDescend
import Derived.Test.YtcjhbmjimjbphaaBetLib
namespace Go.Proofs.Ytcjhbmjimjbphaa.QFnExactDescend
open Go.RowKit Go.Proofs.YtcjhbmjimjbphaaW.PrintWords Go.Proofs.YtcjhbmjimjbphaaW.PrintLast Go.Proofs.YtcjhbmjimjbphaaW.PrintMore
open Go.Proofs.Ytcjhbmjimjbphaa.Bet
attribute [local go_sem] max2_int min2_int max_two min_two max_three min_three max_four min_four   -- for this text's walks alone
set_option linter.unusedVariables false
set_option linter.unusedSimpArgs false

/-! ### laws_FnExactDescend: function 5 -/
mutual
def laws_FnExactDescend.j0 : Nat → List Int → Int → List (S50) → Bool → List Int → List (S50) → Bool → Bool → Int → List Int → List Int → List (S72) → Int → List Int → List Int → List (S52) → Option (Bool)
  | 0, _, _, _, _, _, _, _, _, _, _, _, _, _, _, _, _ => none
  | k + 1, x1, x2, x8, x9, x11, x12, x13, x55, x287000, x287001, x287002, x287003, x316000, x316001, x316002, x316003 => if x55 = true then (some false) else ((laws_toProblem.f k x287000 x287001 x287002 x287003).bind fun bt324 => ((laws_eqProblem.f k x316000 x316001 x316002 x316003 bt324.1 bt324.2.1 bt324.2.2.1 bt324.2.2.2).bind fun t334 => (if t334 = true then ((laws_toInt64S.f k x1).bind fun t335 => ((laws_eqInt64S.f k x11 t335).bind fun t338 => (if t338 = true then ((laws_markProblem.f k x316000 x316001 x316002 x316003 1).bind fun b339 => ((laws_markInt64S.f k x11 b339.1).bind fun bt340 => (if bt340.1 < 0 then (laws_FnExactDescend.j1 k x1 x2 x8 x9 x12 true x287000 x287001 x287002 x287003) else ((laws_eqMoveS.f k x12 x8).bind fun t342 => (if t342 = true then (laws_FnExactDescend.j1 k x1 x2 x8 x9 x12 (x13 != x9) x287000 x287001 x287002 x287003) else (laws_FnExactDescend.j1 k x1 x2 x8 x9 x12 true x287000 x287001 x287002 x287003)))))) else (some false)))) else (some false))))
def laws_FnExactDescend.j1 : Nat → List Int → Int → List (S50) → Bool → List (S50) → Bool → Int → List Int → List Int → List (S72) → Option (Bool)
  | 0, _, _, _, _, _, _, _, _, _, _ => none
  | k + 1, x1, x2, x8, x9, x12, x84, x287000, x287001, x287002, x287003 => if x84 = true then (some false) else ((laws_markMoveS.f k x12 1).bind fun bt343 => ((laws_heldMoveS.f k bt343.2 1).bind fun t345 => (if t345 < 0 then (some false) else (if t345 = bt343.1 then ((laws_toProblem.f k x287000 x287001 x287002 x287003).bind fun bt346 => ((laws_toInt64S.f k x1).bind fun t356 => ((impl_Descend.f k bt346.1 bt346.2.1 bt346.2.2.1 bt346.2.2.2 t356 x2).bind fun bt359 => ((laws_eqMoveS.f k bt359.1 x8).bind fun t363 => (if t363 = true then (laws_FnExactDescend.j2 k bt343.2 bt343.1 (bt359.2 != x9)) else (laws_FnExactDescend.j2 k bt343.2 bt343.1 true)))))) else (some false)))))
def laws_FnExactDescend.j2 : Nat → List (S50) → Int → Bool → Option (Bool)
  | 0, _, _, _ => none
  | k + 1, x12, x15, x113 => if x113 = true then (some false) else ((laws_heldMoveS.f k x12 1).bind fun t364 => (if t364 < 0 then (some false) else (if t364 = x15 then (some true) else (some false))))
end
def laws_FnExactDescend.f (k : Nat) (a0_0 : Int) (l0_1 : List Int) (l0_2 : List Int) (l0_3 : List (S72)) (l1 : List Int) (a2 : Int) : Option (Bool) := if (l1.length : Int) > 1048576 then (some true) else ((laws_szProblem.f k a0_0 l0_1 l0_2 l0_3 1048576).bind fun t287 => (if t287 < 0 then (some true) else ((laws_toProblem.f k a0_0 l0_1 l0_2 l0_3).bind fun bt288 => ((laws_toInt64S.f k l1).bind fun t298 => ((spec_Descend.f k bt288.1 bt288.2.1 bt288.2.2.1 bt288.2.2.2 t298 a2).bind fun bt301 => ((laws_toProblem.f k a0_0 l0_1 l0_2 l0_3).bind fun bt305 => ((laws_toInt64S.f k l1).bind fun t316 => ((impl_Descend.f k bt305.1 bt305.2.1 bt305.2.2.1 bt305.2.2.2 t316 a2).bind fun bt319 => ((laws_eqMoveS.f k bt319.1 bt301.1).bind fun t323 => (if t323 = true then (laws_FnExactDescend.j0 k l1 a2 bt301.1 bt301.2 t316 bt319.1 bt319.2 (bt319.2 != bt301.2) a0_0 l0_1 l0_2 l0_3 bt305.1 bt305.2.1 bt305.2.2.1 bt305.2.2.2) else (laws_FnExactDescend.j0 k l1 a2 bt301.1 bt301.2 t316 bt319.1 bt319.2 true a0_0 l0_1 l0_2 l0_3 bt305.1 bt305.2.1 bt305.2.2.1 bt305.2.2.2)))))))))))
theorem laws_FnExactDescend.mono_l : ∀ k, (∀ y0 y1 y2 y3 y4 y5 y6 y7 y8 y9 y10 y11 y12 y13 y14 y15, LeO (laws_FnExactDescend.j0 k y0 y1 y2 y3 y4 y5 y6 y7 y8 y9 y10 y11 y12 y13 y14 y15) (laws_FnExactDescend.j0 (k + 1) y0 y1 y2 y3 y4 y5 y6 y7 y8 y9 y10 y11 y12 y13 y14 y15)) ∧ (∀ y0 y1 y2 y3 y4 y5 y6 y7 y8 y9, LeO (laws_FnExactDescend.j1 k y0 y1 y2 y3 y4 y5 y6 y7 y8 y9) (laws_FnExactDescend.j1 (k + 1) y0 y1 y2 y3 y4 y5 y6 y7 y8 y9)) ∧ (∀ y0 y1 y2, LeO (laws_FnExactDescend.j2 k y0 y1 y2) (laws_FnExactDescend.j2 (k + 1) y0 y1 y2))
  | 0 => ⟨fun _ _ _ _ _ _ _ _ _ _ _ _ _ _ _ _ r h => by simp [laws_FnExactDescend.j0] at h, fun _ _ _ _ _ _ _ _ _ _ r h => by simp [laws_FnExactDescend.j1] at h, fun _ _ _ r h => by simp [laws_FnExactDescend.j2] at h⟩
  | k + 1 => by
    obtain ⟨ih0, ih1, ih2⟩ := laws_FnExactDescend.mono_l k
    refine ⟨?_, ?_, ?_⟩
    · intro y0 y1 y2 y3 y4 y5 y6 y7 y8 y9 y10 y11 y12 y13 y14 y15
      unfold laws_FnExactDescend.j0
      repeat' first
      | (with_reducible exact ih0 _ _ _ _ _ _ _ _ _ _ _ _ _ _ _ _)
      | (with_reducible exact ih1 _ _ _ _ _ _ _ _ _ _)
      | (with_reducible exact ih2 _ _ _)
      | (with_reducible exact impl_Descend.mono _ _ _ _ _ _ _)
      | (with_reducible exact laws_eqInt64S.mono _ _ _)
      | (with_reducible exact laws_eqMoveS.mono _ _ _)
      | (with_reducible exact laws_eqProblem.mono _ _ _ _ _ _ _ _ _)
      | (with_reducible exact laws_heldMoveS.mono _ _ _)
      | (with_reducible exact laws_markInt64S.mono _ _ _)
      | (with_reducible exact laws_markMoveS.mono _ _ _)
      | (with_reducible exact laws_markProblem.mono _ _ _ _ _ _)
      | (with_reducible exact laws_szProblem.mono _ _ _ _ _ _)
      | (with_reducible exact laws_toInt64S.mono _ _)
      | (with_reducible exact laws_toProblem.mono _ _ _ _ _)
      | (with_reducible exact spec_Descend.mono _ _ _ _ _ _ _)
      | (with_reducible exact LeO.refl _)
      | (with_reducible exact LeO.none _)
      | (with_reducible refine LeO.ite ?_ ?_)
      | (with_reducible refine LeO.bind ?_ (fun _ => ?_))
      | exact ih0 _ _ _ _ _ _ _ _ _ _ _ _ _ _ _ _
      | exact ih1 _ _ _ _ _ _ _ _ _ _
      | exact ih2 _ _ _
      | exact impl_Descend.mono _ _ _ _ _ _ _
      | exact laws_eqInt64S.mono _ _ _
      | exact laws_eqMoveS.mono _ _ _
      | exact laws_eqProblem.mono _ _ _ _ _ _ _ _ _
      | exact laws_heldMoveS.mono _ _ _
      | exact laws_markInt64S.mono _ _ _
      | exact laws_markMoveS.mono _ _ _
      | exact laws_markProblem.mono _ _ _ _ _ _
      | exact laws_szProblem.mono _ _ _ _ _ _
      | exact laws_toInt64S.mono _ _
      | exact laws_toProblem.mono _ _ _ _ _
      | exact spec_Descend.mono _ _ _ _ _ _ _
      | exact LeO.none _
      | refine LeO.ite ?_ ?_
      | refine LeO.bind ?_ (fun _ => ?_)
    · intro y0 y1 y2 y3 y4 y5 y6 y7 y8 y9
      unfold laws_FnExactDescend.j1
      repeat' first
      | (with_reducible exact ih0 _ _ _ _ _ _ _ _ _ _ _ _ _ _ _ _)
      | (with_reducible exact ih1 _ _ _ _ _ _ _ _ _ _)
      | (with_reducible exact ih2 _ _ _)
      | (with_reducible exact impl_Descend.mono _ _ _ _ _ _ _)
      | (with_reducible exact laws_eqInt64S.mono _ _ _)
      | (with_reducible exact laws_eqMoveS.mono _ _ _)
      | (with_reducible exact laws_eqProblem.mono _ _ _ _ _ _ _ _ _)
      | (with_reducible exact laws_heldMoveS.mono _ _ _)
      | (with_reducible exact laws_markInt64S.mono _ _ _)
      | (with_reducible exact laws_markMoveS.mono _ _ _)
      | (with_reducible exact laws_markProblem.mono _ _ _ _ _ _)
      | (with_reducible exact laws_szProblem.mono _ _ _ _ _ _)
      | (with_reducible exact laws_toInt64S.mono _ _)
      | (with_reducible exact laws_toProblem.mono _ _ _ _ _)
      | (with_reducible exact spec_Descend.mono _ _ _ _ _ _ _)
      | (with_reducible exact LeO.refl _)
      | (with_reducible exact LeO.none _)
      | (with_reducible refine LeO.ite ?_ ?_)
      | (with_reducible refine LeO.bind ?_ (fun _ => ?_))
      | exact ih0 _ _ _ _ _ _ _ _ _ _ _ _ _ _ _ _
      | exact ih1 _ _ _ _ _ _ _ _ _ _
      | exact ih2 _ _ _
      | exact impl_Descend.mono _ _ _ _ _ _ _
      | exact laws_eqInt64S.mono _ _ _
      | exact laws_eqMoveS.mono _ _ _
      | exact laws_eqProblem.mono _ _ _ _ _ _ _ _ _
      | exact laws_heldMoveS.mono _ _ _
      | exact laws_markInt64S.mono _ _ _
      | exact laws_markMoveS.mono _ _ _
      | exact laws_markProblem.mono _ _ _ _ _ _
      | exact laws_szProblem.mono _ _ _ _ _ _
      | exact laws_toInt64S.mono _ _
      | exact laws_toProblem.mono _ _ _ _ _
      | exact spec_Descend.mono _ _ _ _ _ _ _
      | exact LeO.none _
      | refine LeO.ite ?_ ?_
      | refine LeO.bind ?_ (fun _ => ?_)
    · intro y0 y1 y2
      unfold laws_FnExactDescend.j2
      repeat' first
      | (with_reducible exact ih0 _ _ _ _ _ _ _ _ _ _ _ _ _ _ _ _)
      | (with_reducible exact ih1 _ _ _ _ _ _ _ _ _ _)
      | (with_reducible exact ih2 _ _ _)
      | (with_reducible exact impl_Descend.mono _ _ _ _ _ _ _)
      | (with_reducible exact laws_eqInt64S.mono _ _ _)
      | (with_reducible exact laws_eqMoveS.mono _ _ _)
      | (with_reducible exact laws_eqProblem.mono _ _ _ _ _ _ _ _ _)
      | (with_reducible exact laws_heldMoveS.mono _ _ _)
      | (with_reducible exact laws_markInt64S.mono _ _ _)
      | (with_reducible exact laws_markMoveS.mono _ _ _)
      | (with_reducible exact laws_markProblem.mono _ _ _ _ _ _)
      | (with_reducible exact laws_szProblem.mono _ _ _ _ _ _)
      | (with_reducible exact laws_toInt64S.mono _ _)
      | (with_reducible exact laws_toProblem.mono _ _ _ _ _)
      | (with_reducible exact spec_Descend.mono _ _ _ _ _ _ _)
      | (with_reducible exact LeO.refl _)
      | (with_reducible exact LeO.none _)
      | (with_reducible refine LeO.ite ?_ ?_)
      | (with_reducible refine LeO.bind ?_ (fun _ => ?_))
      | exact ih0 _ _ _ _ _ _ _ _ _ _ _ _ _ _ _ _
      | exact ih1 _ _ _ _ _ _ _ _ _ _
      | exact ih2 _ _ _
      | exact impl_Descend.mono _ _ _ _ _ _ _
      | exact laws_eqInt64S.mono _ _ _
      | exact laws_eqMoveS.mono _ _ _
      | exact laws_eqProblem.mono _ _ _ _ _ _ _ _ _
      | exact laws_heldMoveS.mono _ _ _
      | exact laws_markInt64S.mono _ _ _
      | exact laws_markMoveS.mono _ _ _
      | exact laws_markProblem.mono _ _ _ _ _ _
      | exact laws_szProblem.mono _ _ _ _ _ _
      | exact laws_toInt64S.mono _ _
      | exact laws_toProblem.mono _ _ _ _ _
      | exact spec_Descend.mono _ _ _ _ _ _ _
      | exact LeO.none _
      | refine LeO.ite ?_ ?_
      | refine LeO.bind ?_ (fun _ => ?_)
theorem laws_FnExactDescend.mono : ∀ a0 a1 a2 a3 a4 a5 k, LeO (laws_FnExactDescend.f k a0 a1 a2 a3 a4 a5) (laws_FnExactDescend.f (k + 1) a0 a1 a2 a3 a4 a5) := by
  intro a0 a1 a2 a3 a4 a5 k
  obtain ⟨ih0, ih1, ih2⟩ := laws_FnExactDescend.mono_l k
  unfold laws_FnExactDescend.f
  repeat' first
      | (with_reducible exact ih0 _ _ _ _ _ _ _ _ _ _ _ _ _ _ _ _)
      | (with_reducible exact ih1 _ _ _ _ _ _ _ _ _ _)
      | (with_reducible exact ih2 _ _ _)
      | (with_reducible exact impl_Descend.mono _ _ _ _ _ _ _)
      | (with_reducible exact laws_eqInt64S.mono _ _ _)
      | (with_reducible exact laws_eqMoveS.mono _ _ _)
      | (with_reducible exact laws_eqProblem.mono _ _ _ _ _ _ _ _ _)
      | (with_reducible exact laws_heldMoveS.mono _ _ _)
      | (with_reducible exact laws_markInt64S.mono _ _ _)
      | (with_reducible exact laws_markMoveS.mono _ _ _)
      | (with_reducible exact laws_markProblem.mono _ _ _ _ _ _)
      | (with_reducible exact laws_szProblem.mono _ _ _ _ _ _)
      | (with_reducible exact laws_toInt64S.mono _ _)
      | (with_reducible exact laws_toProblem.mono _ _ _ _ _)
      | (with_reducible exact spec_Descend.mono _ _ _ _ _ _ _)
      | (with_reducible exact LeO.refl _)
      | (with_reducible exact LeO.none _)
      | (with_reducible refine LeO.ite ?_ ?_)
      | (with_reducible refine LeO.bind ?_ (fun _ => ?_))
      | exact ih0 _ _ _ _ _ _ _ _ _ _ _ _ _ _ _ _
      | exact ih1 _ _ _ _ _ _ _ _ _ _
      | exact ih2 _ _ _
      | exact impl_Descend.mono _ _ _ _ _ _ _
      | exact laws_eqInt64S.mono _ _ _
      | exact laws_eqMoveS.mono _ _ _
      | exact laws_eqProblem.mono _ _ _ _ _ _ _ _ _
      | exact laws_heldMoveS.mono _ _ _
      | exact laws_markInt64S.mono _ _ _
      | exact laws_markMoveS.mono _ _ _
      | exact laws_markProblem.mono _ _ _ _ _ _
      | exact laws_szProblem.mono _ _ _ _ _ _
      | exact laws_toInt64S.mono _ _
      | exact laws_toProblem.mono _ _ _ _ _
      | exact spec_Descend.mono _ _ _ _ _ _ _
      | exact LeO.none _
      | refine LeO.ite ?_ ?_
      | refine LeO.bind ?_ (fun _ => ?_)
set_option maxHeartbeats 8000000 in
set_option maxRecDepth 100000 in
theorem laws_FnExactDescend.calls (k : Nat) (a0_0 : Int) (A0_1 : Option Addr) (c0_1 : Nat) (l0_1 : List Int) (A0_2 : Option Addr) (c0_2 : Nat) (l0_2 : List Int) (A0_3 : Option Addr) (c0_3 : Nat) (l0_3 : List (S72)) (A1 : Option Addr) (c1 : Nat) (l1 : List Int) (a2 : Int) (w : World) (hr0_1 : Kd.C (Kd.int .i64) w A0_1 l0_1.length l0_1) (hc0_1 : l0_1.length ≤ c0_1) (hr0_2 : Kd.C (Kd.int .i64) w A0_2 l0_2.length l0_2) (hc0_2 : l0_2.length ≤ c0_2) (hr0_3 : Kd.C k72 w A0_3 l0_3.length l0_3) (hc0_3 : l0_3.length ≤ c0_3) (hr1 : Kd.C (Kd.int .i64) w A1 l1.length l1) (hc1 : l1.length ≤ c1) (h : laws_FnExactDescend.f k a0_0 l0_1 l0_2 l0_3 l1 a2 = some true) :
    Calls Try.prog 5 #[.agg #[.int .i64 a0_0, .slice A0_1 l0_1.length c0_1, .slice A0_2 l0_2.length c0_2, .slice A0_3 l0_3.length c0_3], .slice A1 l1.length c1, .int .i64 a2] w fun e w' => e = .returned (.bool true) ∧ Below w.heap.size w w' := by
  have hu25 := Try.underlying25
  have hu30 := Try.underlying30
  have HR0_1 := Aside0.mk hr0_1
  have HC0_1 := Aside0.mk hc0_1
  clear hr0_1 hc0_1
  have HR0_2 := Aside0.mk hr0_2
  have HC0_2 := Aside0.mk hc0_2
  clear hr0_2 hc0_2
  have HR0_3 := Aside0.mk hr0_3
  have HC0_3 := Aside0.mk hc0_3
  clear hr0_3 hc0_3
  have HR1 := Aside0.mk hr1
  have HC1 := Aside0.mk hc1
  clear hr1 hc1
  have HB := Aside0.mk (Below.refl w.heap.size w)
  have H : (if (l1.length : Int) > 1048576 then (some true) else ((laws_szProblem.f k a0_0 l0_1 l0_2 l0_3 1048576).bind fun t287 => (if t287 < 0 then (some true) else ((laws_toProblem.f k a0_0 l0_1 l0_2 l0_3).bind fun bt288 => ((laws_toInt64S.f k l1).bind fun t298 => ((spec_Descend.f k bt288.1 bt288.2.1 bt288.2.2.1 bt288.2.2.2 t298 a2).bind fun bt301 => ((laws_toProblem.f k a0_0 l0_1 l0_2 l0_3).bind fun bt305 => ((laws_toInt64S.f k l1).bind fun t316 => ((impl_Descend.f k bt305.1 bt305.2.1 bt305.2.2.1 bt305.2.2.2 t316 a2).bind fun bt319 => ((laws_eqMoveS.f k bt319.1 bt301.1).bind fun t323 => (if t323 = true then (laws_FnExactDescend.j0 k l1 a2 bt301.1 bt301.2 t316 bt319.1 bt319.2 (bt319.2 != bt301.2) a0_0 l0_1 l0_2 l0_3 bt305.1 bt305.2.1 bt305.2.2.1 bt305.2.2.2) else (laws_FnExactDescend.j0 k l1 a2 bt301.1 bt301.2 t316 bt319.1 bt319.2 true a0_0 l0_1 l0_2 l0_3 bt305.1 bt305.2.1 bt305.2.2.1 bt305.2.2.2)))))))))))) = some true := h
  clear h
  by_cases c4 : (l1.length : Int) > 1048576
  · rw [if_pos c4] at H
    have c4b0 : decide (1048576 < (l1.length : Int)) = true := decide_eq_true c4
    have c4b1 : decide (1048576 < l1.length) = true := decide_eq_true (by omega)
    clear c4
    clear H
    go_enter Try.func5, Try.ntmps5
    go_wp2_with (first | ((with_reducible refine gate_dst (N := 3) rfl ?_); refine box_event ?hg (N := 3) ?hd (cs := #[.int .i64 a0_0, .slice A0_1 l0_1.length c0_1, .slice A0_2 l0_2.length c0_2, .slice A0_3 l0_3.length c0_3]) (t := 25) ?hr ?_; (case hd => rfl); (case hg => rfl); (case hr => first | (go_simp; done) | (go_simp; rfl)); intro gb286 hg w5 hbox hb; have n0_ := Aside0.mk (below_step (by repeat (first | (with_reducible first | exact HB.out | apply below_alloc | apply pw_below_drewN | apply below_drew1) | exact HB.out)) hb); have n1_ := Aside0.mk (hbox); have n2_ := Aside0.mk ((by rw [hg]; exact (below_size (by repeat (first | (with_reducible first | exact HB.out | apply below_alloc | apply pw_below_drewN | apply below_drew1) | exact HB.out))) : w.heap.size ≤ gb286)); have n3_ := Aside0.mk ((by rw [hg]; exact (below_size (by repeat (first | (with_reducible first | exact HB.out | apply below_alloc | apply pw_below_drewN | apply below_drew1) | exact HB.out))) : w.heap.size ≤ gb286)); clear HB; have HB := n0_; have BK286 := n1_; have GW286 := n2_; have GE286 := n3_; clear n0_ n1_ n2_ n3_; clear hb hbox hg))
    go_ret
    exact ⟨by first | rfl | (simp [errW_none, errW_some] <;> rfl) | (simp [*, errW_none, errW_some] <;> rfl), by repeat (first | (with_reducible first | exact HB.out | apply below_alloc | apply pw_below_drewN | apply below_drew1 | refine below_set ?_ GE286.out) | exact HB.out)⟩
  · rw [if_neg c4] at H
    have c4b0 : decide (1048576 < (l1.length : Int)) = false := decide_eq_false c4
    have c4b1 : decide (1048576 < l1.length) = false := decide_eq_false (by omega)
    clear c4
    replace H := Option.bind_eq_some_iff.mp H
    obtain ⟨t287, A60, H⟩ := H
    replace H : (if t287 < 0 then (some true) else ((laws_toProblem.f k a0_0 l0_1 l0_2 l0_3).bind fun bt288 => ((laws_toInt64S.f k l1).bind fun t298 => ((spec_Descend.f k bt288.1 bt288.2.1 bt288.2.2.1 bt288.2.2.2 t298 a2).bind fun bt301 => ((laws_toProblem.f k a0_0 l0_1 l0_2 l0_3).bind fun bt305 => ((laws_toInt64S.f k l1).bind fun t316 => ((impl_Descend.f k bt305.1 bt305.2.1 bt305.2.2.1 bt305.2.2.2 t316 a2).bind fun bt319 => ((laws_eqMoveS.f k bt319.1 bt301.1).bind fun t323 => (if t323 = true then (laws_FnExactDescend.j0 k l1 a2 bt301.1 bt301.2 t316 bt319.1 bt319.2 (bt319.2 != bt301.2) a0_0 l0_1 l0_2 l0_3 bt305.1 bt305.2.1 bt305.2.2.1 bt305.2.2.2) else (laws_FnExactDescend.j0 k l1 a2 bt301.1 bt301.2 t316 bt319.1 bt319.2 true a0_0 l0_1 l0_2 l0_3 bt305.1 bt305.2.1 bt305.2.2.1 bt305.2.2.2)))))))))) = some true := H
    have A6 := Aside0.mk A60
    clear A60
    by_cases c7 : t287 < 0
    · rw [if_pos c7] at H
      have c7b0 : decide (t287 < 0) = true := decide_eq_true c7
      clear c7
      clear H
      go_enter Try.func5, Try.ntmps5
      go_wp2_with (first | ((with_reducible refine gate_dst (N := 3) rfl ?_); refine box_event ?hg (N := 3) ?hd (cs := #[.int .i64 a0_0, .slice A0_1 l0_1.length c0_1, .slice A0_2 l0_2.length c0_2, .slice A0_3 l0_3.length c0_3]) (t := 25) ?hr ?_; (case hd => rfl); (case hg => rfl); (case hr => first | (go_simp; done) | (go_simp; rfl)); intro gb286 hg w8 hbox hb; have n0_ := Aside0.mk (below_step (by repeat (first | (with_reducible first | exact HB.out | apply below_alloc | apply pw_below_drewN | apply below_drew1) | exact HB.out)) hb); have n1_ := Aside0.mk (hbox); have n2_ := Aside0.mk ((by rw [hg]; exact (below_size (by repeat (first | (with_reducible first | exact HB.out | apply below_alloc | apply pw_below_drewN | apply below_drew1) | exact HB.out))) : w.heap.size ≤ gb286)); have n3_ := Aside0.mk ((by rw [hg]; exact (below_size (by repeat (first | (with_reducible first | exact HB.out | apply below_alloc | apply pw_below_drewN | apply below_drew1) | exact HB.out))) : w.heap.size ≤ gb286)); clear HB; have HB := n0_; have BK286 := n1_; have GW286 := n2_; have GE286 := n3_; clear n0_ n1_ n2_ n3_; clear hb hbox hg; have hcz9_0 : w8.cell? ⟨gb286, 0, none⟩ = some (.int .i64 a0_0) := (blk_cell BK286.out 0).trans rfl; have hcz9_1 : w8.cell? ⟨gb286, 1, none⟩ = some (.slice A0_1 l0_1.length c0_1) := (blk_cell BK286.out 1).trans rfl; have hcz9_2 : w8.cell? ⟨gb286, 2, none⟩ = some (.slice A0_2 l0_2.length c0_2) := (blk_cell BK286.out 2).trans rfl; have hcz9_3 : w8.cell? ⟨gb286, 3, none⟩ = some (.slice A0_3 l0_3.length c0_3) := (blk_cell BK286.out 3).trans rfl; have hfz9_0 := blk_frozen BK286.out 0; have hfz9_1 := blk_frozen BK286.out 1; have hfz9_2 := blk_frozen BK286.out 2; have hfz9_3 := blk_frozen BK286.out 3) | ((with_reducible refine gate_callee (f := 7) rfl ?_); refine goesL_ (some 24) rfl rfl Try.func7 (by kernel_rfl) rfl #[.agg #[.int .i64 a0_0, .slice A0_1 l0_1.length c0_1, .slice A0_2 l0_2.length c0_2, .slice A0_3 l0_3.length c0_3], .int .i64 1048576] rfl (by (try simp only [List.map_toArray, List.map_cons, List.map_nil]); first | done | rfl | (simp only [List.length_drop, List.length_take]; rfl)) ?_; (with_reducible refine (laws_szProblem.calls k a0_0 _ _ l0_1 _ _ l0_2 _ _ l0_3 1048576 t287 _ ?side1 ?side2 ?side3 ?side4 ?side5 ?side6 A6.out).mono ?_); (case side1 => repeat (first | exact (Kd.C_below HR0_1.out HB.out) | (with_reducible refine Kd.C_alloc ?_ _) | (with_reducible refine Kd.C_drewN ?_ _) | (with_reducible refine Kd.C_drew ?_))); (case side2 => exact HC0_1.out); (case side3 => repeat (first | exact (Kd.C_below HR0_2.out HB.out) | (with_reducible refine Kd.C_alloc ?_ _) | (with_reducible refine Kd.C_drewN ?_ _) | (with_reducible refine Kd.C_drew ?_))); (case side4 => exact HC0_2.out); (case side5 => repeat (first | exact (Kd.C_below HR0_3.out HB.out) | (with_reducible refine Kd.C_alloc ?_ _) | (with_reducible refine Kd.C_drewN ?_ _) | (with_reducible refine Kd.C_drew ?_))); (case side6 => exact HC0_3.out); rintro e w10 ⟨rfl, hb⟩; refine ⟨_, rfl, ?_⟩; have n0_ := Aside0.mk (blk_below (g := gb286) (o := .cells #[.int .i64 a0_0, .slice A0_1 l0_1.length c0_1, .slice A0_2 l0_2.length c0_2, .slice A0_3 l0_3.length c0_3] 25 (0, 0)) (by (with_reducible repeat (first | refine blk_drewN ?_ _ | refine blk_drew ?_ | refine blk_alloc ?_ _)); exact BK286.out) hb); have n1_ := Aside0.mk (below_step (by repeat (first | (with_reducible first | exact HB.out | apply below_alloc | apply pw_below_drewN | apply below_drew1 | refine below_set ?_ GE286.out) | exact HB.out)) hb); clear BK286; clear HB; have BK286 := n0_; have HB := n1_; clear n0_ n1_; (try clear hb); (try clear hb2); (try clear hk); (try clear hi)))
      go_ret
      exact ⟨by first | rfl | (simp [errW_none, errW_some] <;> rfl) | (simp [*, errW_none, errW_some] <;> rfl), by repeat (first | (with_reducible first | exact HB.out | apply below_alloc | apply pw_below_drewN | apply below_drew1 | refine below_set ?_ GE286.out) | exact HB.out)⟩
    · rw [if_neg c7] at H
      have c7b0 : decide (t287 < 0) = false := decide_eq_false c7
      clear c7
      replace H := Option.bind_eq_some_iff.mp H
      obtain ⟨⟨t288, t289, t292, t295⟩, A110, H⟩ := H
      replace H : ((laws_toInt64S.f k l1).bind fun t298 => ((spec_Descend.f k t288 t289 t292 t295 t298 a2).bind fun bt301 => ((laws_toProblem.f k a0_0 l0_1 l0_2 l0_3).bind fun bt305 => ((laws_toInt64S.f k l1).bind fun t316 => ((impl_Descend.f k bt305.1 bt305.2.1 bt305.2.2.1 bt305.2.2.2 t316 a2).bind fun bt319 => ((laws_eqMoveS.f k bt319.1 bt301.1).bind fun t323 => (if t323 = true then (laws_FnExactDescend.j0 k l1 a2 bt301.1 bt301.2 t316 bt319.1 bt319.2 (bt319.2 != bt301.2) a0_0 l0_1 l0_2 l0_3 bt305.1 bt305.2.1 bt305.2.2.1 bt305.2.2.2) else (laws_FnExactDescend.j0 k l1 a2 bt301.1 bt301.2 t316 bt319.1 bt319.2 true a0_0 l0_1 l0_2 l0_3 bt305.1 bt305.2.1 bt305.2.2.1 bt305.2.2.2)))))))) = some true := H
      have A11 := Aside0.mk A110
      clear A110
      replace H := Option.bind_eq_some_iff.mp H
      obtain ⟨t298, A120, H⟩ := H
      replace H : ((spec_Descend.f k t288 t289 t292 t295 t298 a2).bind fun bt301 => ((laws_toProblem.f k a0_0 l0_1 l0_2 l0_3).bind fun bt305 => ((laws_toInt64S.f k l1).bind fun t316 => ((impl_Descend.f k bt305.1 bt305.2.1 bt305.2.2.1 bt305.2.2.2 t316 a2).bind fun bt319 => ((laws_eqMoveS.f k bt319.1 bt301.1).bind fun t323 => (if t323 = true then (laws_FnExactDescend.j0 k l1 a2 bt301.1 bt301.2 t316 bt319.1 bt319.2 (bt319.2 != bt301.2) a0_0 l0_1 l0_2 l0_3 bt305.1 bt305.2.1 bt305.2.2.1 bt305.2.2.2) else (laws_FnExactDescend.j0 k l1 a2 bt301.1 bt301.2 t316 bt319.1 bt319.2 true a0_0 l0_1 l0_2 l0_3 bt305.1 bt305.2.1 bt305.2.2.1 bt305.2.2.2))))))) = some true := H
      have A12 := Aside0.mk A120
      clear A120
      replace H := Option.bind_eq_some_iff.mp H
      obtain ⟨⟨t301, t304⟩, A130, H⟩ := H
      replace H : ((laws_toProblem.f k a0_0 l0_1 l0_2 l0_3).bind fun bt305 => ((laws_toInt64S.f k l1).bind fun t316 => ((impl_Descend.f k bt305.1 bt305.2.1 bt305.2.2.1 bt305.2.2.2 t316 a2).bind fun bt319 => ((laws_eqMoveS.f k bt319.1 t301).bind fun t323 => (if t323 = true then (laws_FnExactDescend.j0 k l1 a2 t301 t304 t316 bt319.1 bt319.2 (bt319.2 != t304) a0_0 l0_1 l0_2 l0_3 bt305.1 bt305.2.1 bt305.2.2.1 bt305.2.2.2) else (laws_FnExactDescend.j0 k l1 a2 t301 t304 t316 bt319.1 bt319.2 true a0_0 l0_1 l0_2 l0_3 bt305.1 bt305.2.1 bt305.2.2.1 bt305.2.2.2)))))) = some true := H
      have A13 := Aside0.mk A130
      clear A130
      replace H := Option.bind_eq_some_iff.mp H
      obtain ⟨⟨t305, t306, t309, t312⟩, A140, H⟩ := H
      replace H : ((laws_toInt64S.f k l1).bind fun t316 => ((impl_Descend.f k t305 t306 t309 t312 t316 a2).bind fun bt319 => ((laws_eqMoveS.f k bt319.1 t301).bind fun t323 => (if t323 = true then (laws_FnExactDescend.j0 k l1 a2 t301 t304 t316 bt319.1 bt319.2 (bt319.2 != t304) a0_0 l0_1 l0_2 l0_3 t305 t306 t309 t312) else (laws_FnExactDescend.j0 k l1 a2 t301 t304 t316 bt319.1 bt319.2 true a0_0 l0_1 l0_2 l0_3 t305 t306 t309 t312))))) = some true := H
      have A14 := Aside0.mk A140
      clear A140
      replace H := Option.bind_eq_some_iff.mp H
      obtain ⟨t316, A150, H⟩ := H
      replace H : ((impl_Descend.f k t305 t306 t309 t312 t316 a2).bind fun bt319 => ((laws_eqMoveS.f k bt319.1 t301).bind fun t323 => (if t323 = true then (laws_FnExactDescend.j0 k l1 a2 t301 t304 t316 bt319.1 bt319.2 (bt319.2 != t304) a0_0 l0_1 l0_2 l0_3 t305 t306 t309 t312) else (laws_FnExactDescend.j0 k l1 a2 t301 t304 t316 bt319.1 bt319.2 true a0_0 l0_1 l0_2 l0_3 t305 t306 t309 t312)))) = some true := H
      have A15 := Aside0.mk A150
      clear A150
      replace H := Option.bind_eq_some_iff.mp H
      obtain ⟨⟨t319, t322⟩, A160, H⟩ := H
      replace H : ((laws_eqMoveS.f k t319 t301).bind fun t323 => (if t323 = true then (laws_FnExactDescend.j0 k l1 a2 t301 t304 t316 t319 t322 (t322 != t304) a0_0 l0_1 l0_2 l0_3 t305 t306 t309 t312) else (laws_FnExactDescend.j0 k l1 a2 t301 t304 t316 t319 t322 true a0_0 l0_1 l0_2 l0_3 t305 t306 t309 t312))) = some true := H
      have A16 := Aside0.mk A160
      clear A160
      have HC17 := Aside0.mk H
      clear H
      go_enter Try.func5, Try.ntmps5
      go_upto_region 11 with (first | ((with_reducible refine gate_dst (N := 3) rfl ?_); refine box_event ?hg (N := 3) ?hd (cs := #[.int .i64 a0_0, .slice A0_1 l0_1.length c0_1, .slice A0_2 l0_2.length c0_2, .slice A0_3 l0_3.length c0_3]) (t := 25) ?hr ?_; (case hd => rfl); (case hg => rfl); (case hr => first | (go_simp; done) | (go_simp; rfl)); intro gb286 hg w18 hbox hb; have n0_ := Aside0.mk (below_step (by repeat (first | (with_reducible first | exact HB.out | apply below_alloc | apply pw_below_drewN | apply below_drew1) | exact HB.out)) hb); have n1_ := Aside0.mk (hbox); have n2_ := Aside0.mk ((by rw [hg]; exact (below_size (by repeat (first | (with_reducible first | exact HB.out | apply below_alloc | apply pw_below_drewN | apply below_drew1) | exact HB.out))) : w.heap.size ≤ gb286)); have n3_ := Aside0.mk ((by rw [hg]; exact (below_size (by repeat (first | (with_reducible first | exact HB.out | apply below_alloc | apply pw_below_drewN | apply below_drew1) | exact HB.out))) : w.heap.size ≤ gb286)); clear HB; have HB := n0_; have BK286 := n1_; have GW286 := n2_; have GE286 := n3_; clear n0_ n1_ n2_ n3_; clear hb hbox hg; have hcz19_0 : w18.cell? ⟨gb286, 0, none⟩ = some (.int .i64 a0_0) := (blk_cell BK286.out 0).trans rfl; have hcz19_1 : w18.cell? ⟨gb286, 1, none⟩ = some (.slice A0_1 l0_1.length c0_1) := (blk_cell BK286.out 1).trans rfl; have hcz19_2 : w18.cell? ⟨gb286, 2, none⟩ = some (.slice A0_2 l0_2.length c0_2) := (blk_cell BK286.out 2).trans rfl; have hcz19_3 : w18.cell? ⟨gb286, 3, none⟩ = some (.slice A0_3 l0_3.length c0_3) := (blk_cell BK286.out 3).trans rfl; have hfz19_0 := blk_frozen BK286.out 0; have hfz19_1 := blk_frozen BK286.out 1; have hfz19_2 := blk_frozen BK286.out 2; have hfz19_3 := blk_frozen BK286.out 3) | ((with_reducible refine gate_callee (f := 7) rfl ?_); refine goesL_ (some 24) rfl rfl Try.func7 (by kernel_rfl) rfl #[.agg #[.int .i64 a0_0, .slice A0_1 l0_1.length c0_1, .slice A0_2 l0_2.length c0_2, .slice A0_3 l0_3.length c0_3], .int .i64 1048576] rfl (by (try simp only [List.map_toArray, List.map_cons, List.map_nil]); first | done | rfl | (simp only [List.length_drop, List.length_take]; rfl)) ?_; (with_reducible refine (laws_szProblem.calls k a0_0 _ _ l0_1 _ _ l0_2 _ _ l0_3 1048576 t287 _ ?side1 ?side2 ?side3 ?side4 ?side5 ?side6 A6.out).mono ?_); (case side1 => repeat (first | exact (Kd.C_below HR0_1.out HB.out) | (with_reducible refine Kd.C_alloc ?_ _) | (with_reducible refine Kd.C_drewN ?_ _) | (with_reducible refine Kd.C_drew ?_))); (case side2 => exact HC0_1.out); (case side3 => repeat (first | exact (Kd.C_below HR0_2.out HB.out) | (with_reducible refine Kd.C_alloc ?_ _) | (with_reducible refine Kd.C_drewN ?_ _) | (with_reducible refine Kd.C_drew ?_))); (case side4 => exact HC0_2.out); (case side5 => repeat (first | exact (Kd.C_below HR0_3.out HB.out) | (with_reducible refine Kd.C_alloc ?_ _) | (with_reducible refine Kd.C_drewN ?_ _) | (with_reducible refine Kd.C_drew ?_))); (case side6 => exact HC0_3.out); rintro e w20 ⟨rfl, hb⟩; refine ⟨_, rfl, ?_⟩; have n0_ := Aside0.mk (blk_below (g := gb286) (o := .cells #[.int .i64 a0_0, .slice A0_1 l0_1.length c0_1, .slice A0_2 l0_2.length c0_2, .slice A0_3 l0_3.length c0_3] 25 (0, 0)) (by (with_reducible repeat (first | refine blk_drewN ?_ _ | refine blk_drew ?_ | refine blk_alloc ?_ _)); exact BK286.out) hb); have n1_ := Aside0.mk (below_step (by repeat (first | (with_reducible first | exact HB.out | apply below_alloc | apply pw_below_drewN | apply below_drew1 | refine below_set ?_ GE286.out) | exact HB.out)) hb); clear BK286; clear HB; have BK286 := n0_; have HB := n1_; clear n0_ n1_; (try clear hb); (try clear hb2); (try clear hk); (try clear hi); have hcz21_0 : w20.cell? ⟨gb286, 0, none⟩ = some (.int .i64 a0_0) := (blk_cell BK286.out 0).trans rfl; have hcz21_1 : w20.cell? ⟨gb286, 1, none⟩ = some (.slice A0_1 l0_1.length c0_1) := (blk_cell BK286.out 1).trans rfl; have hcz21_2 : w20.cell? ⟨gb286, 2, none⟩ = some (.slice A0_2 l0_2.length c0_2) := (blk_cell BK286.out 2).trans rfl; have hcz21_3 : w20.cell? ⟨gb286, 3, none⟩ = some (.slice A0_3 l0_3.length c0_3) := (blk_cell BK286.out 3).trans rfl; have hfz21_0 := blk_frozen BK286.out 0; have hfz21_1 := blk_frozen BK286.out 1; have hfz21_2 := blk_frozen BK286.out 2; have hfz21_3 := blk_frozen BK286.out 3) | ((with_reducible refine gate_callee (f := 9) rfl ?_); refine goesL_ (some 29) rfl rfl Try.func9 (by kernel_rfl) rfl #[.agg #[.int .i64 a0_0, .slice A0_1 l0_1.length c0_1, .slice A0_2 l0_2.length c0_2, .slice A0_3 l0_3.length c0_3]] rfl (by (try simp only [List.map_toArray, List.map_cons, List.map_nil]); first | done | rfl | (simp only [List.length_drop, List.length_take]; rfl)) ?_; (with_reducible refine (laws_toProblem.calls k a0_0 _ _ l0_1 _ _ l0_2 _ _ l0_3 t288 t289 t292 t295 _ ?side1 ?side2 ?side3 ?side4 ?side5 ?side6 A11.out).mono ?_); (case side1 => repeat (first | exact (Kd.C_below HR0_1.out HB.out) | (with_reducible refine Kd.C_alloc ?_ _) | (with_reducible refine Kd.C_drewN ?_ _) | (with_reducible refine Kd.C_drew ?_))); (case side2 => exact HC0_1.out); (case side3 => repeat (first | exact (Kd.C_below HR0_2.out HB.out) | (with_reducible refine Kd.C_alloc ?_ _) | (with_reducible refine Kd.C_drewN ?_ _) | (with_reducible refine Kd.C_drew ?_))); (case side4 => exact HC0_2.out); (case side5 => repeat (first | exact (Kd.C_below HR0_3.out HB.out) | (with_reducible refine Kd.C_alloc ?_ _) | (with_reducible refine Kd.C_drewN ?_ _) | (with_reducible refine Kd.C_drew ?_))); (case side6 => exact HC0_3.out); rintro e w22 ⟨v290, v293, v296, rfl, ho0, ho1, ho2, hb⟩; refine ⟨_, rfl, ?_⟩; obtain ⟨loAo26, hiAo26, hl_, hh_, ho2⟩ := S_inV (Q := fun n_ => gb286 < n_) ho2 (blk_lt (g := gb286) (o := .cells #[.int .i64 a0_0, .slice A0_1 l0_1.length c0_1, .slice A0_2 l0_2.length c0_2, .slice A0_3 l0_3.length c0_3] 25 (0, 0)) (by (with_reducible repeat (first | refine blk_drewN ?_ _ | refine blk_drew ?_ | refine blk_alloc ?_ _)); exact BK286.out)); have HLAo26 := Aside0.mk (show gb286 < loAo26 from hl_); have HHAo26 := Aside0.mk hh_; clear hl_ hh_; have n0_ := Aside0.mk (Kd.R_lower ho0 (below_size (by repeat (first | (with_reducible first | exact HB.out | apply below_alloc | apply pw_below_drewN | apply below_drew1 | refine below_set ?_ GE286.out) | exact HB.out)))); have n1_ := Aside0.mk (Kd.R_lower ho1 (below_size (by repeat (first | (with_reducible first | exact HB.out | apply below_alloc | apply pw_below_drewN | apply below_drew1 | refine below_set ?_ GE286.out) | exact HB.out)))); have n2_ := Aside0.mk (Kd.S_lower ho2 (below_size (by repeat (first | (with_reducible first | exact HB.out | apply below_alloc | apply pw_below_drewN | apply below_drew1 | refine below_set ?_ GE286.out) | exact HB.out)))); have n3_ := Aside0.mk (blk_below (g := gb286) (o := .cells #[.int .i64 a0_0, .slice A0_1 l0_1.length c0_1, .slice A0_2 l0_2.length c0_2, .slice A0_3 l0_3.length c0_3] 25 (0, 0)) (by (with_reducible repeat (first | refine blk_drewN ?_ _ | refine blk_drew ?_ | refine blk_alloc ?_ _)); exact BK286.out) hb); have n4_ := Aside0.mk (below_step (by repeat (first | (with_reducible first | exact HB.out | apply below_alloc | apply pw_below_drewN | apply below_drew1 | refine below_set ?_ GE286.out) | exact HB.out)) hb); clear BK286; clear HB; have HO291 := n0_; have HO294 := n1_; have HO297 := n2_; have BK286 := n3_; have HB := n4_; clear n0_ n1_ n2_ n3_ n4_; (try clear hb); (try clear hb2); (try clear hk); (try clear hi); (try clear ho0); (try clear ho1); (try clear ho2)) | ((with_reducible refine gate_callee (f := 10) rfl ?_); refine goesL_ (some 31) rfl rfl Try.func10 (by kernel_rfl) rfl #[.slice A1 l1.length c1] rfl (by (try simp only [List.map_toArray, List.map_cons, List.map_nil]); first | done | rfl | (simp only [List.length_drop, List.length_take]; rfl)) ?_; (with_reducible refine (laws_toInt64S.calls k _ _ l1 t298 _ ?side1 ?side2 A12.out).mono ?_); (case side1 => repeat (first | exact (Kd.C_below HR1.out HB.out) | (with_reducible refine Kd.C_alloc ?_ _) | (with_reducible refine Kd.C_drewN ?_ _) | (with_reducible refine Kd.C_drew ?_))); (case side2 => exact HC1.out); rintro e w23 ⟨v299, rfl, ho0, hb⟩; refine ⟨_, rfl, ?_⟩; have n0_ := Aside0.mk (Kd.R_elder' (by (with_reducible repeat (first | apply Kd.R_alloc | apply Kd.R_drewN | apply Kd.R_drew)); exact HO291.out) (Kd.R_base ho0) hb); have n1_ := Aside0.mk (Kd.R_elder' (by (with_reducible repeat (first | apply Kd.R_alloc | apply Kd.R_drewN | apply Kd.R_drew)); exact HO294.out) (Kd.R_base ho0) hb); have n2_ := Aside0.mk (Kd.S_elder' (by (with_reducible repeat (first | apply Kd.S_alloc | apply Kd.S_drewN | apply Kd.S_drew)); exact HO297.out) (Kd.R_base ho0) hb); have n3_ := Aside0.mk (Kd.R_lower (Kd.R_new' (Kd.R_new' ho0 (Kd.R_lt (by (with_reducible repeat (first | apply Kd.R_alloc | apply Kd.R_drewN | apply Kd.R_drew)); exact HO291.out))) (Kd.R_lt (by (with_reducible repeat (first | apply Kd.R_alloc | apply Kd.R_drewN | apply Kd.R_drew)); exact HO294.out))) (below_size (by repeat (first | (with_reducible first | exact HB.out | apply below_alloc | apply pw_below_drewN | apply below_drew1 | refine below_set ?_ GE286.out) | exact HB.out)))); have n4_ := Aside0.mk (blk_below (g := gb286) (o := .cells #[.int .i64 a0_0, .slice A0_1 l0_1.length c0_1, .slice A0_2 l0_2.length c0_2, .slice A0_3 l0_3.length c0_3] 25 (0, 0)) (by (with_reducible repeat (first | refine blk_drewN ?_ _ | refine blk_drew ?_ | refine blk_alloc ?_ _)); exact BK286.out) hb); have n5_ := Aside0.mk (below_step (by repeat (first | (with_reducible first | exact HB.out | apply below_alloc | apply pw_below_drewN | apply below_drew1 | refine below_set ?_ GE286.out) | exact HB.out)) hb); clear HO291; clear HO294; clear HO297; clear BK286; clear HB; have HO291 := n0_; have HO294 := n1_; have HO297 := n2_; have HO300 := n3_; have BK286 := n4_; have HB := n5_; clear n0_ n1_ n2_ n3_ n4_ n5_; (try clear hb); (try clear hb2); (try clear hk); (try clear hi); (try clear ho0); obtain ⟨Ao24, co24, eo24⟩ := Kd.R_slice HO291.out; subst eo24; obtain ⟨Ao25, co25, eo25⟩ := Kd.R_slice HO294.out; subst eo25; obtain ⟨Ao26, co26, eo26⟩ := Kd.S_slice HO297.out; subst eo26; obtain ⟨Ao27, co27, eo27⟩ := Kd.R_slice HO300.out; subst eo27) | ((with_reducible refine gate_callee (f := 16) rfl ?_); refine goesL_ (some 33) rfl rfl Try.func16 (by kernel_rfl) rfl #[.agg #[.int .i64 t288, .slice Ao24 t289.length co24, .slice Ao25 t292.length co25, .slice Ao26 t295.length co26], .slice Ao27 t298.length co27, .int .i64 a2] rfl (by (try simp only [List.map_toArray, List.map_cons, List.map_nil]); first | done | rfl | (simp only [List.length_drop, List.length_take]; rfl)) ?_; (with_reducible refine (spec_Descend.calls k t288 _ _ t289 _ _ t292 _ _ t295 _ _ t298 a2 t301 t304 _ ?side1 ?side2 ?side3 ?side4 ?side5 ?side6 ?side7 ?side8 A13.out).mono ?_); (case side1 => repeat (first | exact (Kd.R_reads' HO291.out).2.2 | (with_reducible refine Kd.C_alloc ?_ _) | (with_reducible refine Kd.C_drewN ?_ _) | (with_reducible refine Kd.C_drew ?_))); (case side2 => exact (Kd.R_reads' HO291.out).2.1); (case side3 => repeat (first | exact (Kd.R_reads' HO294.out).2.2 | (with_reducible refine Kd.C_alloc ?_ _) | (with_reducible refine Kd.C_drewN ?_ _) | (with_reducible refine Kd.C_drew ?_))); (case side4 => exact (Kd.R_reads' HO294.out).2.1); (case side5 => repeat (first | exact (S_readsB HO297.out).2.2 | (with_reducible refine Kd.C_alloc ?_ _) | (with_reducible refine Kd.C_drewN ?_ _) | (with_reducible refine Kd.C_drew ?_))); (case side6 => exact (S_readsB HO297.out).2.1); (case side7 => repeat (first | exact (Kd.R_reads' HO300.out).2.2 | (with_reducible refine Kd.C_alloc ?_ _) | (with_reducible refine Kd.C_drewN ?_ _) | (with_reducible refine Kd.C_drew ?_))); (case side8 => exact (Kd.R_reads' HO300.out).2.1); rintro e w28 ⟨v302, rfl, ho0, hb⟩; refine ⟨_, rfl, ?_⟩; have n0_ := Aside0.mk (Kd.R_below (by (with_reducible repeat (first | apply Kd.R_alloc | apply Kd.R_drewN | apply Kd.R_drew)); exact HO291.out) hb); have n1_ := Aside0.mk (Kd.R_below (by (with_reducible repeat (first | apply Kd.R_alloc | apply Kd.R_drewN | apply Kd.R_drew)); exact HO294.out) hb); have n2_ := Aside0.mk (Kd.S_below (by (with_reducible repeat (first | apply Kd.S_alloc | apply Kd.S_drewN | apply Kd.S_drew)); exact HO297.out) hb); have n3_ := Aside0.mk (Kd.R_below (by (with_reducible repeat (first | apply Kd.R_alloc | apply Kd.R_drewN | apply Kd.R_drew)); exact HO300.out) hb); have n4_ := Aside0.mk (Kd.R_lower ho0 (below_size (by repeat (first | (with_reducible first | exact HB.out | apply below_alloc | apply pw_below_drewN | apply below_drew1 | refine below_set ?_ GE286.out) | exact HB.out)))); have n5_ := Aside0.mk (blk_below (g := gb286) (o := .cells #[.int .i64 a0_0, .slice A0_1 l0_1.length c0_1, .slice A0_2 l0_2.length c0_2, .slice A0_3 l0_3.length c0_3] 25 (0, 0)) (by (with_reducible repeat (first | refine blk_drewN ?_ _ | refine blk_drew ?_ | refine blk_alloc ?_ _)); exact BK286.out) hb); have n6_ := Aside0.mk (below_step (by repeat (first | (with_reducible first | exact HB.out | apply below_alloc | apply pw_below_drewN | apply below_drew1 | refine below_set ?_ GE286.out) | exact HB.out)) hb); clear HO291; clear HO294; clear HO297; clear HO300; clear BK286; clear HB; have HO291 := n0_; have HO294 := n1_; have HO297 := n2_; have HO300 := n3_; have HO303 := n4_; have BK286 := n5_; have HB := n6_; clear n0_ n1_ n2_ n3_ n4_ n5_ n6_; (try clear hb); (try clear hb2); (try clear hk); (try clear hi); (try clear ho0); have hcz29_0 : w28.cell? ⟨gb286, 0, none⟩ = some (.int .i64 a0_0) := (blk_cell BK286.out 0).trans rfl; have hcz29_1 : w28.cell? ⟨gb286, 1, none⟩ = some (.slice A0_1 l0_1.length c0_1) := (blk_cell BK286.out 1).trans rfl; have hcz29_2 : w28.cell? ⟨gb286, 2, none⟩ = some (.slice A0_2 l0_2.length c0_2) := (blk_cell BK286.out 2).trans rfl; have hcz29_3 : w28.cell? ⟨gb286, 3, none⟩ = some (.slice A0_3 l0_3.length c0_3) := (blk_cell BK286.out 3).trans rfl; have hfz29_0 := blk_frozen BK286.out 0; have hfz29_1 := blk_frozen BK286.out 1; have hfz29_2 := blk_frozen BK286.out 2; have hfz29_3 := blk_frozen BK286.out 3) | ((with_reducible refine gate_callee (f := 9) rfl ?_); refine goesL_ (some 37) rfl rfl Try.func9 (by kernel_rfl) rfl #[.agg #[.int .i64 a0_0, .slice A0_1 l0_1.length c0_1, .slice A0_2 l0_2.length c0_2, .slice A0_3 l0_3.length c0_3]] rfl (by (try simp only [List.map_toArray, List.map_cons, List.map_nil]); first | done | rfl | (simp only [List.length_drop, List.length_take]; rfl)) ?_; (with_reducible refine (laws_toProblem.calls k a0_0 _ _ l0_1 _ _ l0_2 _ _ l0_3 t305 t306 t309 t312 _ ?side1 ?side2 ?side3 ?side4 ?side5 ?side6 A14.out).mono ?_); (case side1 => repeat (first | exact (Kd.C_below HR0_1.out HB.out) | (with_reducible refine Kd.C_alloc ?_ _) | (with_reducible refine Kd.C_drewN ?_ _) | (with_reducible refine Kd.C_drew ?_))); (case side2 => exact HC0_1.out); (case side3 => repeat (first | exact (Kd.C_below HR0_2.out HB.out) | (with_reducible refine Kd.C_alloc ?_ _) | (with_reducible refine Kd.C_drewN ?_ _) | (with_reducible refine Kd.C_drew ?_))); (case side4 => exact HC0_2.out); (case side5 => repeat (first | exact (Kd.C_below HR0_3.out HB.out) | (with_reducible refine Kd.C_alloc ?_ _) | (with_reducible refine Kd.C_drewN ?_ _) | (with_reducible refine Kd.C_drew ?_))); (case side6 => exact HC0_3.out); rintro e w30 ⟨v307, v310, v313, rfl, ho0, ho1, ho2, hb⟩; refine ⟨_, rfl, ?_⟩; obtain ⟨loAo36, hiAo36, hl_, hh_, ho2⟩ := S_inV (Q := fun n_ => gb286 < n_) ho2 (blk_lt (g := gb286) (o := .cells #[.int .i64 a0_0, .slice A0_1 l0_1.length c0_1, .slice A0_2 l0_2.length c0_2, .slice A0_3 l0_3.length c0_3] 25 (0, 0)) (by (with_reducible repeat (first | refine blk_drewN ?_ _ | refine blk_drew ?_ | refine blk_alloc ?_ _)); exact BK286.out)); have HLAo36 := Aside0.mk (show gb286 < loAo36 from hl_); have HHAo36 := Aside0.mk hh_; clear hl_ hh_; have n0_ := Aside0.mk (Kd.R_mono (Kd.R_told (Kd.R_told (Kd.R_old (by (with_reducible repeat (first | apply Kd.R_alloc | apply Kd.R_drewN | apply Kd.R_drew)); exact HO291.out) hb) (Kd.R_base ho0)) (Kd.R_base ho1)) (fun _ h_ => h_.1)); have n1_ := Aside0.mk (Kd.R_mono (Kd.R_told (Kd.R_told (Kd.R_old (by (with_reducible repeat (first | apply Kd.R_alloc | apply Kd.R_drewN | apply Kd.R_drew)); exact HO294.out) hb) (Kd.R_base ho0)) (Kd.R_base ho1)) (fun _ h_ => h_.1)); have n2_ := Aside0.mk (Kd.S_mono (Kd.S_told (Kd.S_told (Kd.S_told (Kd.S_old (by (with_reducible repeat (first | apply Kd.S_alloc | apply Kd.S_drewN | apply Kd.S_drew)); exact HO297.out) hb) (Kd.R_base ho0)) (Kd.R_base ho1)) (Kd.S_base ho2)) (fun _ h_ => h_.1)); have n3_ := Aside0.mk (Kd.R_mono (Kd.R_told (Kd.R_told (Kd.R_old (by (with_reducible repeat (first | apply Kd.R_alloc | apply Kd.R_drewN | apply Kd.R_drew)); exact HO300.out) hb) (Kd.R_base ho0)) (Kd.R_base ho1)) (fun _ h_ => h_.1)); have n4_ := Aside0.mk (Kd.R_below (by (with_reducible repeat (first | apply Kd.R_alloc | apply Kd.R_drewN | apply Kd.R_drew)); exact HO303.out) hb); have n5_ := Aside0.mk (Kd.R_lower (Kd.R_new' (Kd.R_new' (Kd.R_new' ho0 (Kd.R_lt (by (with_reducible repeat (first | apply Kd.R_alloc | apply Kd.R_drewN | apply Kd.R_drew)); exact HO291.out))) (Kd.R_lt (by (with_reducible repeat (first | apply Kd.R_alloc | apply Kd.R_drewN | apply Kd.R_drew)); exact HO294.out))) (Kd.R_lt (by (with_reducible repeat (first | apply Kd.R_alloc | apply Kd.R_drewN | apply Kd.R_drew)); exact HO300.out))) (below_size (by repeat (first | (with_reducible first | exact HB.out | apply below_alloc | apply pw_below_drewN | apply below_drew1 | refine below_set ?_ GE286.out) | exact HB.out)))); have n6_ := Aside0.mk (Kd.R_lower (Kd.R_new' (Kd.R_new' (Kd.R_new' ho1 (Kd.R_lt (by (with_reducible repeat (first | apply Kd.R_alloc | apply Kd.R_drewN | apply Kd.R_drew)); exact HO291.out))) (Kd.R_lt (by (with_reducible repeat (first | apply Kd.R_alloc | apply Kd.R_drewN | apply Kd.R_drew)); exact HO294.out))) (Kd.R_lt (by (with_reducible repeat (first | apply Kd.R_alloc | apply Kd.R_drewN | apply Kd.R_drew)); exact HO300.out))) (below_size (by repeat (first | (with_reducible first | exact HB.out | apply below_alloc | apply pw_below_drewN | apply below_drew1 | refine below_set ?_ GE286.out) | exact HB.out)))); have n7_ := Aside0.mk (Kd.S_lower (Kd.S_new' (Kd.S_new' (Kd.S_new' (Kd.S_new' ho2 (Kd.R_lt (by (with_reducible repeat (first | apply Kd.R_alloc | apply Kd.R_drewN | apply Kd.R_drew)); exact HO291.out))) (Kd.R_lt (by (with_reducible repeat (first | apply Kd.R_alloc | apply Kd.R_drewN | apply Kd.R_drew)); exact HO294.out))) (Kd.S_lt (by (with_reducible repeat (first | apply Kd.S_alloc | apply Kd.S_drewN | apply Kd.S_drew)); exact HO297.out))) (Kd.R_lt (by (with_reducible repeat (first | apply Kd.R_alloc | apply Kd.R_drewN | apply Kd.R_drew)); exact HO300.out))) (below_size (by repeat (first | (with_reducible first | exact HB.out | apply below_alloc | apply pw_below_drewN | apply below_drew1 | refine below_set ?_ GE286.out) | exact HB.out)))); have n8_ := Aside0.mk (blk_below (g := gb286) (o := .cells #[.int .i64 a0_0, .slice A0_1 l0_1.length c0_1, .slice A0_2 l0_2.length c0_2, .slice A0_3 l0_3.length c0_3] 25 (0, 0)) (by (with_reducible repeat (first | refine blk_drewN ?_ _ | refine blk_drew ?_ | refine blk_alloc ?_ _)); exact BK286.out) hb); have n9_ := Aside0.mk (below_step (by repeat (first | (with_reducible first | exact HB.out | apply below_alloc | apply pw_below_drewN | apply below_drew1 | refine below_set ?_ GE286.out) | exact HB.out)) hb); clear HO291; clear HO294; clear HO297; clear HO300; clear HO303; clear BK286; clear HB; have HO291 := n0_; have HO294 := n1_; have HO297 := n2_; have HO300 := n3_; have HO303 := n4_; have HO308 := n5_; have HO311 := n6_; have HO314 := n7_; have BK286 := n8_; have HB := n9_; clear n0_ n1_ n2_ n3_ n4_ n5_ n6_ n7_ n8_ n9_; (try clear hb); (try clear hb2); (try clear hk); (try clear hi); (try clear ho0); (try clear ho1); (try clear ho2)) | ((with_reducible refine gate_dst (N := 10) rfl ?_); refine box_event ?hg (N := 10) ?hd (cs := #[.int .i64 0, .slice none 0 0, .slice none 0 0, .slice none 0 0]) (t := 30) ?hr ?_; (case hd => rfl); (case hg => rfl); (case hr => first | (go_simp; done) | (go_simp; rfl)); intro gb315 hg w31 hbox hb; have HIAo36 := Aside0.mk (Nat.le_trans (Nat.le_of_eq HHAo36.out) (by rw [hg]; exact Nat.le_refl _) : hiAo36 ≤ gb315); have n0_ := Aside0.mk (Kd.R_below (by (with_reducible repeat (first | apply Kd.R_alloc | apply Kd.R_drewN | apply Kd.R_drew)); exact HO291.out) hb); have n1_ := Aside0.mk (Kd.R_below (by (with_reducible repeat (first | apply Kd.R_alloc | apply Kd.R_drewN | apply Kd.R_drew)); exact HO294.out) hb); have n2_ := Aside0.mk (Kd.S_below (by (with_reducible repeat (first | apply Kd.S_alloc | apply Kd.S_drewN | apply Kd.S_drew)); exact HO297.out) hb); have n3_ := Aside0.mk (Kd.R_below (by (with_reducible repeat (first | apply Kd.R_alloc | apply Kd.R_drewN | apply Kd.R_drew)); exact HO300.out) hb); have n4_ := Aside0.mk (Kd.R_below (by (with_reducible repeat (first | apply Kd.R_alloc | apply Kd.R_drewN | apply Kd.R_drew)); exact HO303.out) hb); have n5_ := Aside0.mk (Kd.R_below (by (with_reducible repeat (first | apply Kd.R_alloc | apply Kd.R_drewN | apply Kd.R_drew)); exact HO308.out) hb); have n6_ := Aside0.mk (Kd.R_below (by (with_reducible repeat (first | apply Kd.R_alloc | apply Kd.R_drewN | apply Kd.R_drew)); exact HO311.out) hb); have n7_ := Aside0.mk (Kd.S_below (by (with_reducible repeat (first | apply Kd.S_alloc | apply Kd.S_drewN | apply Kd.S_drew)); exact HO314.out) hb); have n8_ := Aside0.mk (blk_below (g := gb286) (o := .cells #[.int .i64 a0_0, .slice A0_1 l0_1.length c0_1, .slice A0_2 l0_2.length c0_2, .slice A0_3 l0_3.length c0_3] 25 (0, 0)) (by (with_reducible repeat (first | refine blk_drewN ?_ _ | refine blk_drew ?_ | refine blk_alloc ?_ _)); exact BK286.out) hb); have n9_ := Aside0.mk (below_step (by repeat (first | (with_reducible first | exact HB.out | apply below_alloc | apply pw_below_drewN | apply below_drew1 | refine below_set ?_ GE286.out) | exact HB.out)) hb); have n10_ := Aside0.mk (hbox); have n11_ := Aside0.mk ((by rw [hg]; exact (below_size (by repeat (first | (with_reducible first | exact HB.out | apply below_alloc | apply pw_below_drewN | apply below_drew1 | refine below_set ?_ GE286.out) | exact HB.out))) : w.heap.size ≤ gb315)); have n12_ := Aside0.mk ((by rw [hg]; exact (below_size (by repeat (first | (with_reducible first | exact HB.out | apply below_alloc | apply pw_below_drewN | apply below_drew1 | refine below_set ?_ GE286.out) | exact HB.out))) : w.heap.size ≤ gb315)); have n13_ := Aside0.mk ((by rw [hg]; exact Nat.ne_of_lt (blk_lt (g := gb286) (o := .cells #[.int .i64 a0_0, .slice A0_1 l0_1.length c0_1, .slice A0_2 l0_2.length c0_2, .slice A0_3 l0_3.length c0_3] 25 (0, 0)) (by (with_reducible repeat (first | refine blk_drewN ?_ _ | refine blk_drew ?_ | refine blk_alloc ?_ _)); exact BK286.out)) : gb286 ≠ gb315)); have n14_ := Aside0.mk ((by rw [hg]; exact Nat.ne_of_gt (blk_lt (g := gb286) (o := .cells #[.int .i64 a0_0, .slice A0_1 l0_1.length c0_1, .slice A0_2 l0_2.length c0_2, .slice A0_3 l0_3.length c0_3] 25 (0, 0)) (by (with_reducible repeat (first | refine blk_drewN ?_ _ | refine blk_drew ?_ | refine blk_alloc ?_ _)); exact BK286.out)) : gb315 ≠ gb286)); clear HO291; clear HO294; clear HO297; clear HO300; clear HO303; clear HO308; clear HO311; clear HO314; clear BK286; clear HB; have HO291 := n0_; have HO294 := n1_; have HO297 := n2_; have HO300 := n3_; have HO303 := n4_; have HO308 := n5_; have HO311 := n6_; have HO314 := n7_; have BK286 := n8_; have HB := n9_; have BK315 := n10_; have GW315 := n11_; have GE315 := n12_; have NB286_315 := n13_; have NB315_286 := n14_; clear n0_ n1_ n2_ n3_ n4_ n5_ n6_ n7_ n8_ n9_ n10_ n11_ n12_ n13_ n14_; clear hb hbox hg; have hnb32 := NB315_286.out; have hnc32 := NB286_315.out; have hcz33_0 : w31.cell? ⟨gb315, 0, none⟩ = some (.int .i64 0) := (blk_cell BK315.out 0).trans rfl; have hcz33_1 : w31.cell? ⟨gb315, 1, none⟩ = some (.slice none 0 0) := (blk_cell BK315.out 1).trans rfl; have hcz33_2 : w31.cell? ⟨gb315, 2, none⟩ = some (.slice none 0 0) := (blk_cell BK315.out 2).trans rfl; have hcz33_3 : w31.cell? ⟨gb315, 3, none⟩ = some (.slice none 0 0) := (blk_cell BK315.out 3).trans rfl; have hfz33_0 := blk_frozen BK315.out 0; have hfz33_1 := blk_frozen BK315.out 1; have hfz33_2 := blk_frozen BK315.out 2; have hfz33_3 := blk_frozen BK315.out 3; obtain ⟨Ao34, co34, eo34⟩ := Kd.R_slice HO308.out; subst eo34; obtain ⟨Ao35, co35, eo35⟩ := Kd.R_slice HO311.out; subst eo35; obtain ⟨Ao36, co36, eo36⟩ := Kd.S_slice HO314.out; subst eo36) | ((with_reducible refine gate_callee (f := 10) rfl ?_); refine goesL_ (some 39) rfl rfl Try.func10 (by kernel_rfl) rfl #[.slice A1 l1.length c1] rfl (by (try simp only [List.map_toArray, List.map_cons, List.map_nil]); first | done | rfl | (simp only [List.length_drop, List.length_take]; rfl)) ?_; (with_reducible refine (laws_toInt64S.calls k _ _ l1 t316 _ ?side1 ?side2 A15.out).mono ?_); (case side1 => exact Kd.C_below HR1.out (by repeat (first | (with_reducible first | exact HB.out | apply below_alloc | apply pw_below_drewN | apply below_drew1 | refine below_set ?_ GE286.out | refine below_set ?_ GE315.out) | exact HB.out))); (case side2 => exact HC1.out); rintro e w37 ⟨v317, rfl, ho0, hb⟩; refine ⟨_, rfl, ?_⟩; have n0_ := Aside0.mk (Kd.R_elder' (by (with_reducible repeat (first | apply Kd.R_alloc | apply Kd.R_drewN | apply Kd.R_drew)); exact (Kd.R_mono (Kd.R_far (p := ⟨gb315, 3, none⟩) (Kd.R_far (p := ⟨gb315, 2, none⟩) (Kd.R_far (p := ⟨gb315, 1, none⟩) (Kd.R_far (p := ⟨gb315, 0, none⟩) (Kd.R_types HO291.out BK315.out (by first | decide | (simp only [bet_E]; decide))) (fun _ hk => hk.2) (.int .i64 t305)) (fun _ hk => hk.2) (.slice Ao34 t306.length co34)) (fun _ hk => hk.2) (.slice Ao35 t309.length co35)) (fun _ hk => hk.2) (.slice Ao36 t312.length co36)) (fun _ h_ => h_.1))) (Kd.R_base ho0) hb); have n1_ := Aside0.mk (Kd.R_elder' (by (with_reducible repeat (first | apply Kd.R_alloc | apply Kd.R_drewN | apply Kd.R_drew)); exact (Kd.R_mono (Kd.R_far (p := ⟨gb315, 3, none⟩) (Kd.R_far (p := ⟨gb315, 2, none⟩) (Kd.R_far (p := ⟨gb315, 1, none⟩) (Kd.R_far (p := ⟨gb315, 0, none⟩) (Kd.R_types HO294.out BK315.out (by first | decide | (simp only [bet_E]; decide))) (fun _ hk => hk.2) (.int .i64 t305)) (fun _ hk => hk.2) (.slice Ao34 t306.length co34)) (fun _ hk => hk.2) (.slice Ao35 t309.length co35)) (fun _ hk => hk.2) (.slice Ao36 t312.length co36)) (fun _ h_ => h_.1))) (Kd.R_base ho0) hb); have n2_ := Aside0.mk (Kd.S_elder' (by (with_reducible repeat (first | apply Kd.S_alloc | apply Kd.S_drewN | apply Kd.S_drew)); exact (Kd.S_mono (Kd.S_far (p := ⟨gb315, 3, none⟩) (Kd.S_far (p := ⟨gb315, 2, none⟩) (Kd.S_far (p := ⟨gb315, 1, none⟩) (Kd.S_far (p := ⟨gb315, 0, none⟩) (Kd.S_types HO297.out BK315.out (by first | decide | (simp only [bet_E]; decide))) (fun _ hk => hk.2) (.int .i64 t305)) (fun _ hk => hk.2) (.slice Ao34 t306.length co34)) (fun _ hk => hk.2) (.slice Ao35 t309.length co35)) (fun _ hk => hk.2) (.slice Ao36 t312.length co36)) (fun _ h_ => h_.1))) (Kd.R_base ho0) hb); have n3_ := Aside0.mk (Kd.R_elder' (by (with_reducible repeat (first | apply Kd.R_alloc | apply Kd.R_drewN | apply Kd.R_drew)); exact (Kd.R_mono (Kd.R_far (p := ⟨gb315, 3, none⟩) (Kd.R_far (p := ⟨gb315, 2, none⟩) (Kd.R_far (p := ⟨gb315, 1, none⟩) (Kd.R_far (p := ⟨gb315, 0, none⟩) (Kd.R_types HO300.out BK315.out (by first | decide | (simp only [bet_E]; decide))) (fun _ hk => hk.2) (.int .i64 t305)) (fun _ hk => hk.2) (.slice Ao34 t306.length co34)) (fun _ hk => hk.2) (.slice Ao35 t309.length co35)) (fun _ hk => hk.2) (.slice Ao36 t312.length co36)) (fun _ h_ => h_.1))) (Kd.R_base ho0) hb); have n4_ := Aside0.mk (Kd.R_below (by (with_reducible repeat (first | apply Kd.R_alloc | apply Kd.R_drewN | apply Kd.R_drew)); exact (Kd.R_mono (Kd.R_far (p := ⟨gb315, 3, none⟩) (Kd.R_far (p := ⟨gb315, 2, none⟩) (Kd.R_far (p := ⟨gb315, 1, none⟩) (Kd.R_far (p := ⟨gb315, 0, none⟩) (Kd.R_types HO303.out BK315.out (by first | decide | (simp only [bet_E]; decide))) (fun _ hk => hk.2) (.int .i64 t305)) (fun _ hk => hk.2) (.slice Ao34 t306.length co34)) (fun _ hk => hk.2) (.slice Ao35 t309.length co35)) (fun _ hk => hk.2) (.slice Ao36 t312.length co36)) (fun _ h_ => h_.1))) hb); have n5_ := Aside0.mk (Kd.R_elder' (by (with_reducible repeat (first | apply Kd.R_alloc | apply Kd.R_drewN | apply Kd.R_drew)); exact (Kd.R_mono (Kd.R_far (p := ⟨gb315, 3, none⟩) (Kd.R_far (p := ⟨gb315, 2, none⟩) (Kd.R_far (p := ⟨gb315, 1, none⟩) (Kd.R_far (p := ⟨gb315, 0, none⟩) (Kd.R_types HO308.out BK315.out (by first | decide | (simp only [bet_E]; decide))) (fun _ hk => hk.2) (.int .i64 t305)) (fun _ hk => hk.2) (.slice Ao34 t306.length co34)) (fun _ hk => hk.2) (.slice Ao35 t309.length co35)) (fun _ hk => hk.2) (.slice Ao36 t312.length co36)) (fun _ h_ => h_.1))) (Kd.R_base ho0) hb); have n6_ := Aside0.mk (Kd.R_elder' (by (with_reducible repeat (first | apply Kd.R_alloc | apply Kd.R_drewN | apply Kd.R_drew)); exact (Kd.R_mono (Kd.R_far (p := ⟨gb315, 3, none⟩) (Kd.R_far (p := ⟨gb315, 2, none⟩) (Kd.R_far (p := ⟨gb315, 1, none⟩) (Kd.R_far (p := ⟨gb315, 0, none⟩) (Kd.R_types HO311.out BK315.out (by first | decide | (simp only [bet_E]; decide))) (fun _ hk => hk.2) (.int .i64 t305)) (fun _ hk => hk.2) (.slice Ao34 t306.length co34)) (fun _ hk => hk.2) (.slice Ao35 t309.length co35)) (fun _ hk => hk.2) (.slice Ao36 t312.length co36)) (fun _ h_ => h_.1))) (Kd.R_base ho0) hb); have n7_ := Aside0.mk (Kd.S_elder' (by (with_reducible repeat (first | apply Kd.S_alloc | apply Kd.S_drewN | apply Kd.S_drew)); exact (Kd.S_mono (Kd.S_far (p := ⟨gb315, 3, none⟩) (Kd.S_far (p := ⟨gb315, 2, none⟩) (Kd.S_far (p := ⟨gb315, 1, none⟩) (Kd.S_far (p := ⟨gb315, 0, none⟩) (Kd.S_types HO314.out BK315.out (by first | decide | (simp only [bet_E]; decide))) (fun _ hk => hk.2) (.int .i64 t305)) (fun _ hk => hk.2) (.slice Ao34 t306.length co34)) (fun _ hk => hk.2) (.slice Ao35 t309.length co35)) (fun _ hk => hk.2) (.slice Ao36 t312.length co36)) (fun _ h_ => h_.1))) (Kd.R_base ho0) hb); have n8_ := Aside0.mk (Kd.R_lower (Kd.R_new' (Kd.R_new' (Kd.R_new' (Kd.R_new' (Kd.R_new' ho0 (Kd.R_lt (by (with_reducible repeat (first | apply Kd.R_alloc | apply Kd.R_drewN | apply Kd.R_drew)); exact (Kd.R_mono (Kd.R_far (p := ⟨gb315, 3, none⟩) (Kd.R_far (p := ⟨gb315, 2, none⟩) (Kd.R_far (p := ⟨gb315, 1, none⟩) (Kd.R_far (p := ⟨gb315, 0, none⟩) (Kd.R_types HO291.out BK315.out (by first | decide | (simp only [bet_E]; decide))) (fun _ hk => hk.2) (.int .i64 t305)) (fun _ hk => hk.2) (.slice Ao34 t306.length co34)) (fun _ hk => hk.2) (.slice Ao35 t309.length co35)) (fun _ hk => hk.2) (.slice Ao36 t312.length co36)) (fun _ h_ => h_.1))))) (Kd.R_lt (by (with_reducible repeat (first | apply Kd.R_alloc | apply Kd.R_drewN | apply Kd.R_drew)); exact (Kd.R_mono (Kd.R_far (p := ⟨gb315, 3, none⟩) (Kd.R_far (p := ⟨gb315, 2, none⟩) (Kd.R_far (p := ⟨gb315, 1, none⟩) (Kd.R_far (p := ⟨gb315, 0, none⟩) (Kd.R_types HO294.out BK315.out (by first | decide | (simp only [bet_E]; decide))) (fun _ hk => hk.2) (.int .i64 t305)) (fun _ hk => hk.2) (.slice Ao34 t306.length co34)) (fun _ hk => hk.2) (.slice Ao35 t309.length co35)) (fun _ hk => hk.2) (.slice Ao36 t312.length co36)) (fun _ h_ => h_.1))))) (Kd.R_lt (by (with_reducible repeat (first | apply Kd.R_alloc | apply Kd.R_drewN | apply Kd.R_drew)); exact (Kd.R_mono (Kd.R_far (p := ⟨gb315, 3, none⟩) (Kd.R_far (p := ⟨gb315, 2, none⟩) (Kd.R_far (p := ⟨gb315, 1, none⟩) (Kd.R_far (p := ⟨gb315, 0, none⟩) (Kd.R_types HO300.out BK315.out (by first | decide | (simp only [bet_E]; decide))) (fun _ hk => hk.2) (.int .i64 t305)) (fun _ hk => hk.2) (.slice Ao34 t306.length co34)) (fun _ hk => hk.2) (.slice Ao35 t309.length co35)) (fun _ hk => hk.2) (.slice Ao36 t312.length co36)) (fun _ h_ => h_.1))))) (Kd.R_lt (by (with_reducible repeat (first | apply Kd.R_alloc | apply Kd.R_drewN | apply Kd.R_drew)); exact (Kd.R_mono (Kd.R_far (p := ⟨gb315, 3, none⟩) (Kd.R_far (p := ⟨gb315, 2, none⟩) (Kd.R_far (p := ⟨gb315, 1, none⟩) (Kd.R_far (p := ⟨gb315, 0, none⟩) (Kd.R_types HO308.out BK315.out (by first | decide | (simp only [bet_E]; decide))) (fun _ hk => hk.2) (.int .i64 t305)) (fun _ hk => hk.2) (.slice Ao34 t306.length co34)) (fun _ hk => hk.2) (.slice Ao35 t309.length co35)) (fun _ hk => hk.2) (.slice Ao36 t312.length co36)) (fun _ h_ => h_.1))))) (Kd.R_lt (by (with_reducible repeat (first | apply Kd.R_alloc | apply Kd.R_drewN | apply Kd.R_drew)); exact (Kd.R_mono (Kd.R_far (p := ⟨gb315, 3, none⟩) (Kd.R_far (p := ⟨gb315, 2, none⟩) (Kd.R_far (p := ⟨gb315, 1, none⟩) (Kd.R_far (p := ⟨gb315, 0, none⟩) (Kd.R_types HO311.out BK315.out (by first | decide | (simp only [bet_E]; decide))) (fun _ hk => hk.2) (.int .i64 t305)) (fun _ hk => hk.2) (.slice Ao34 t306.length co34)) (fun _ hk => hk.2) (.slice Ao35 t309.length co35)) (fun _ hk => hk.2) (.slice Ao36 t312.length co36)) (fun _ h_ => h_.1))))) (below_size (by repeat (first | (with_reducible first | exact HB.out | apply below_alloc | apply pw_below_drewN | apply below_drew1 | refine below_set ?_ GE286.out | refine below_set ?_ GE315.out) | exact HB.out)))); have n9_ := Aside0.mk (blk_below (g := gb286) (o := .cells #[.int .i64 a0_0, .slice A0_1 l0_1.length c0_1, .slice A0_2 l0_2.length c0_2, .slice A0_3 l0_3.length c0_3] 25 (0, 0)) (by (with_reducible repeat (first | refine blk_drewN ?_ _ | refine blk_drew ?_ | refine blk_alloc ?_ _)); refine blk_far ?_ NB286_315.out _; (with_reducible repeat (first | refine blk_drewN ?_ _ | refine blk_drew ?_ | refine blk_alloc ?_ _)); refine blk_far ?_ NB286_315.out _; (with_reducible repeat (first | refine blk_drewN ?_ _ | refine blk_drew ?_ | refine blk_alloc ?_ _)); refine blk_far ?_ NB286_315.out _; (with_reducible repeat (first | refine blk_drewN ?_ _ | refine blk_drew ?_ | refine blk_alloc ?_ _)); refine blk_far ?_ NB286_315.out _; (with_reducible repeat (first | refine blk_drewN ?_ _ | refine blk_drew ?_ | refine blk_alloc ?_ _)); exact BK286.out) hb); have n10_ := Aside0.mk (blk_below (g := gb315) (o := .cells #[.int .i64 t305, .slice Ao34 t306.length co34, .slice Ao35 t309.length co35, .slice Ao36 t312.length co36] 30 (0, 0)) (by (with_reducible repeat (first | refine blk_drewN ?_ _ | refine blk_drew ?_ | refine blk_alloc ?_ _)); refine blk_put (cs := #[.int .i64 t305, .slice Ao34 t306.length co34, .slice Ao35 t309.length co35, .slice none 0 0]) ?_ 3 _ rfl; (with_reducible repeat (first | refine blk_drewN ?_ _ | refine blk_drew ?_ | refine blk_alloc ?_ _)); refine blk_put (cs := #[.int .i64 t305, .slice Ao34 t306.length co34, .slice none 0 0, .slice none 0 0]) ?_ 2 _ rfl; (with_reducible repeat (first | refine blk_drewN ?_ _ | refine blk_drew ?_ | refine blk_alloc ?_ _)); refine blk_put (cs := #[.int .i64 t305, .slice none 0 0, .slice none 0 0, .slice none 0 0]) ?_ 1 _ rfl; (with_reducible repeat (first | refine blk_drewN ?_ _ | refine blk_drew ?_ | refine blk_alloc ?_ _)); refine blk_put (cs := #[.int .i64 0, .slice none 0 0, .slice none 0 0, .slice none 0 0]) ?_ 0 _ rfl; (with_reducible repeat (first | refine blk_drewN ?_ _ | refine blk_drew ?_ | refine blk_alloc ?_ _)); exact BK315.out) hb); have n11_ := Aside0.mk (below_step (by repeat (first | (with_reducible first | exact HB.out | apply below_alloc | apply pw_below_drewN | apply below_drew1 | refine below_set ?_ GE286.out | refine below_set ?_ GE315.out) | exact HB.out)) hb); clear HO291; clear HO294; clear HO297; clear HO300; clear HO303; clear HO308; clear HO311; clear HO314; clear BK286; clear BK315; clear HB; have HO291 := n0_; have HO294 := n1_; have HO297 := n2_; have HO300 := n3_; have HO303 := n4_; have HO308 := n5_; have HO311 := n6_; have HO314 := n7_; have HO318 := n8_; have BK286 := n9_; have BK315 := n10_; have HB := n11_; clear n0_ n1_ n2_ n3_ n4_ n5_ n6_ n7_ n8_ n9_ n10_ n11_; (try clear hb); (try clear hb2); (try clear hk); (try clear hi); (try clear ho0); have hcz38_0 : w37.cell? ⟨gb315, 0, none⟩ = some (.int .i64 t305) := (blk_cell BK315.out 0).trans rfl; have hcz38_1 : w37.cell? ⟨gb315, 1, none⟩ = some (.slice Ao34 t306.length co34) := (blk_cell BK315.out 1).trans rfl; have hcz38_2 : w37.cell? ⟨gb315, 2, none⟩ = some (.slice Ao35 t309.length co35) := (blk_cell BK315.out 2).trans rfl; have hcz38_3 : w37.cell? ⟨gb315, 3, none⟩ = some (.slice Ao36 t312.length co36) := (blk_cell BK315.out 3).trans rfl; have hfz38_0 := blk_frozen BK315.out 0; have hfz38_1 := blk_frozen BK315.out 1; have hfz38_2 := blk_frozen BK315.out 2; have hfz38_3 := blk_frozen BK315.out 3; obtain ⟨Ao39, co39, eo39⟩ := Kd.R_slice HO318.out; subst eo39) | ((with_reducible refine gate_callee (f := 17) rfl ?_); refine goesL_ (some 44) rfl rfl Try.func17 (by kernel_rfl) rfl #[.agg #[.int .i64 t305, .slice Ao34 t306.length co34, .slice Ao35 t309.length co35, .slice Ao36 t312.length co36], .slice Ao39 t316.length co39, .int .i64 a2] rfl (by (try simp only [List.map_toArray, List.map_cons, List.map_nil]); first | done | rfl | (simp only [List.length_drop, List.length_take]; rfl)) ?_; (with_reducible refine (impl_Descend.calls k t305 _ _ t306 _ _ t309 _ _ t312 _ _ t316 a2 t319 t322 _ ?side1 ?side2 ?side3 ?side4 ?side5 ?side6 ?side7 ?side8 A16.out).mono ?_); (case side1 => repeat (first | exact (Kd.R_reads' HO308.out).2.2 | (with_reducible refine Kd.C_alloc ?_ _) | (with_reducible refine Kd.C_drewN ?_ _) | (with_reducible refine Kd.C_drew ?_))); (case side2 => exact (Kd.R_reads' HO308.out).2.1); (case side3 => repeat (first | exact (Kd.R_reads' HO311.out).2.2 | (with_reducible refine Kd.C_alloc ?_ _) | (with_reducible refine Kd.C_drewN ?_ _) | (with_reducible refine Kd.C_drew ?_))); (case side4 => exact (Kd.R_reads' HO311.out).2.1); (case side5 => repeat (first | exact (S_readsB HO314.out).2.2 | (with_reducible refine Kd.C_alloc ?_ _) | (with_reducible refine Kd.C_drewN ?_ _) | (with_reducible refine Kd.C_drew ?_))); (case side6 => exact (S_readsB HO314.out).2.1); (case side7 => repeat (first | exact (Kd.R_reads' HO318.out).2.2 | (with_reducible refine Kd.C_alloc ?_ _) | (with_reducible refine Kd.C_drewN ?_ _) | (with_reducible refine Kd.C_drew ?_))); (case side8 => exact (Kd.R_reads' HO318.out).2.1); rintro e w40 ⟨v320, rfl, ho0, hb⟩; refine ⟨_, rfl, ?_⟩; have n0_ := Aside0.mk (Kd.R_below (by (with_reducible repeat (first | apply Kd.R_alloc | apply Kd.R_drewN | apply Kd.R_drew)); exact HO291.out) hb); have n1_ := Aside0.mk (Kd.R_below (by (with_reducible repeat (first | apply Kd.R_alloc | apply Kd.R_drewN | apply Kd.R_drew)); exact HO294.out) hb); have n2_ := Aside0.mk (Kd.S_below (by (with_reducible repeat (first | apply Kd.S_alloc | apply Kd.S_drewN | apply Kd.S_drew)); exact HO297.out) hb); have n3_ := Aside0.mk (Kd.R_below (by (with_reducible repeat (first | apply Kd.R_alloc | apply Kd.R_drewN | apply Kd.R_drew)); exact HO300.out) hb); have n4_ := Aside0.mk (Kd.R_elder' (by (with_reducible repeat (first | apply Kd.R_alloc | apply Kd.R_drewN | apply Kd.R_drew)); exact HO303.out) (Kd.R_base ho0) hb); have n5_ := Aside0.mk (Kd.R_below (by (with_reducible repeat (first | apply Kd.R_alloc | apply Kd.R_drewN | apply Kd.R_drew)); exact HO308.out) hb); have n6_ := Aside0.mk (Kd.R_below (by (with_reducible repeat (first | apply Kd.R_alloc | apply Kd.R_drewN | apply Kd.R_drew)); exact HO311.out) hb); have n7_ := Aside0.mk (Kd.S_below (by (with_reducible repeat (first | apply Kd.S_alloc | apply Kd.S_drewN | apply Kd.S_drew)); exact HO314.out) hb); have n8_ := Aside0.mk (Kd.R_below (by (with_reducible repeat (first | apply Kd.R_alloc | apply Kd.R_drewN | apply Kd.R_drew)); exact HO318.out) hb); have n9_ := Aside0.mk (Kd.R_lower (Kd.R_new' ho0 (Kd.R_lt (by (with_reducible repeat (first | apply Kd.R_alloc | apply Kd.R_drewN | apply Kd.R_drew)); exact HO303.out))) (below_size (by repeat (first | (with_reducible first | exact HB.out | apply below_alloc | apply pw_below_drewN | apply below_drew1 | refine below_set ?_ GE286.out | refine below_set ?_ GE315.out) | exact HB.out)))); have n10_ := Aside0.mk (blk_below (g := gb286) (o := .cells #[.int .i64 a0_0, .slice A0_1 l0_1.length c0_1, .slice A0_2 l0_2.length c0_2, .slice A0_3 l0_3.length c0_3] 25 (0, 0)) (by (with_reducible repeat (first | refine blk_drewN ?_ _ | refine blk_drew ?_ | refine blk_alloc ?_ _)); exact BK286.out) hb); have n11_ := Aside0.mk (blk_below (g := gb315) (o := .cells #[.int .i64 t305, .slice Ao34 t306.length co34, .slice Ao35 t309.length co35, .slice Ao36 t312.length co36] 30 (0, 0)) (by (with_reducible repeat (first | refine blk_drewN ?_ _ | refine blk_drew ?_ | refine blk_alloc ?_ _)); exact BK315.out) hb); have n12_ := Aside0.mk (below_step (by repeat (first | (with_reducible first | exact HB.out | apply below_alloc | apply pw_below_drewN | apply below_drew1 | refine below_set ?_ GE286.out | refine below_set ?_ GE315.out) | exact HB.out)) hb); clear HO291; clear HO294; clear HO297; clear HO300; clear HO303; clear HO308; clear HO311; clear HO314; clear HO318; clear BK286; clear BK315; clear HB; have HO291 := n0_; have HO294 := n1_; have HO297 := n2_; have HO300 := n3_; have HO303 := n4_; have HO308 := n5_; have HO311 := n6_; have HO314 := n7_; have HO318 := n8_; have HO321 := n9_; have BK286 := n10_; have BK315 := n11_; have HB := n12_; clear n0_ n1_ n2_ n3_ n4_ n5_ n6_ n7_ n8_ n9_ n10_ n11_ n12_; (try clear hb); (try clear hb2); (try clear hk); (try clear hi); (try clear ho0)))
      (try simp only [Act.put, List.setIfInBounds_toArray, List.set_cons_zero, List.set_cons_succ])
      go_cut [55] (fun v55 wc => ∃ (kq : Nat) (x55_16 : Bool), v55 = .bool x55_16 ∧ Aside0 (laws_FnExactDescend.j0 kq l1 a2 t301 t304 t316 t319 t322 x55_16 a0_0 l0_1 l0_2 l0_3 t305 t306 t309 t312 = some true) ∧ Aside0 (kq ≤ k) ∧ Aside0 (Kd.R k50 50 wc w.heap.size (fun k_ => some k_ ≠ (v320 : Value).ownBlock) v302 t301) ∧ Aside0 (Kd.R (Kd.int .i64) 2 wc w.heap.size (fun k_ => some k_ ≠ ((.slice Ao34 t306.length co34) : Value).ownBlock ∧ some k_ ≠ ((.slice Ao35 t309.length co35) : Value).ownBlock) (.slice Ao39 t316.length co39) t316) ∧ Aside0 (Kd.R k50 50 wc w.heap.size (fun k_ => some k_ ≠ (v302 : Value).ownBlock) v320 t319) ∧ Aside0 (Kd.R (Kd.int .i64) 2 wc w.heap.size (fun k_ => some k_ ≠ ((.slice Ao39 t316.length co39) : Value).ownBlock ∧ some k_ ≠ ((.slice Ao35 t309.length co35) : Value).ownBlock) (.slice Ao34 t306.length co34) t306) ∧ Aside0 (Kd.R (Kd.int .i64) 2 wc w.heap.size (fun k_ => some k_ ≠ ((.slice Ao39 t316.length co39) : Value).ownBlock ∧ some k_ ≠ ((.slice Ao34 t306.length co34) : Value).ownBlock) (.slice Ao35 t309.length co35) t309) ∧ Aside0 (Kd.S (bet k52 loAo36 hiAo36) 52 wc w.heap.size (fun k_ => some k_ ≠ ((.slice Ao39 t316.length co39) : Value).ownBlock ∧ some k_ ≠ ((.slice Ao34 t306.length co34) : Value).ownBlock ∧ some k_ ≠ ((.slice Ao35 t309.length co35) : Value).ownBlock) (.slice Ao36 t312.length co36) t312) ∧ Aside0 (wc.heap[gb286]? = some (.cells #[.int .i64 a0_0, (.slice A0_1 l0_1.length c0_1), (.slice A0_2 l0_2.length c0_2), (.slice A0_3 l0_3.length c0_3)] 25 (0, 0))) ∧ Aside0 (wc.heap[gb315]? = some (.cells #[.int .i64 t305, (.slice Ao34 t306.length co34), (.slice Ao35 t309.length co35), (.slice Ao36 t312.length co36)] 30 (0, 0))) ∧ Aside0 (Below w.heap.size w wc))
      case first =>
        have H := HC17.out
        clear HC17
        replace H := Option.bind_eq_some_iff.mp H
        obtain ⟨t323, A410, H⟩ := H
        replace H : (if t323 = true then (laws_FnExactDescend.j0 k l1 a2 t301 t304 t316 t319 t322 (t322 != t304) a0_0 l0_1 l0_2 l0_3 t305 t306 t309 t312) else (laws_FnExactDescend.j0 k l1 a2 t301 t304 t316 t319 t322 true a0_0 l0_1 l0_2 l0_3 t305 t306 t309 t312)) = some true := H
        have A41 := Aside0.mk A410
        clear A410
        by_cases c42 : t323 = true
        · subst c42
          have H1 : (laws_FnExactDescend.j0 k l1 a2 t301 t304 t316 t319 t322 (t322 != t304) a0_0 l0_1 l0_2 l0_3 t305 t306 t309 t312) = some true := by rw [if_pos rfl] at H; exact H
          clear H
          have H := H1
          clear H1
          have H' := Aside0.mk H
          clear H
          obtain ⟨Ao43, co43, eo43⟩ := Kd.R_slice HO321.out
          subst eo43
          obtain ⟨Ao44, co44, eo44⟩ := Kd.R_slice HO303.out
          subst eo44
          go_wp2_with (first | ((with_reducible refine gate_callee (f := 18) rfl ?_); refine goesL_ (some 49) rfl rfl Try.func18 (by kernel_rfl) rfl #[.slice Ao43 t319.length co43, .slice Ao44 t301.length co44] rfl (by (try simp only [List.map_toArray, List.map_cons, List.map_nil]); first | done | rfl | (simp only [List.length_drop, List.length_take]; rfl)) ?_; (with_reducible refine (laws_eqMoveS.calls k _ _ t319 _ _ t301 true _ ?side1 ?side2 ?side3 ?side4 A41.out).mono ?_); (case side1 => repeat (first | exact (Kd.R_reads' HO321.out).2.2 | (with_reducible refine Kd.C_alloc ?_ _) | (with_reducible refine Kd.C_drewN ?_ _) | (with_reducible refine Kd.C_drew ?_))); (case side2 => exact (Kd.R_reads' HO321.out).2.1); (case side3 => repeat (first | exact (Kd.R_reads' HO303.out).2.2 | (with_reducible refine Kd.C_alloc ?_ _) | (with_reducible refine Kd.C_drewN ?_ _) | (with_reducible refine Kd.C_drew ?_))); (case side4 => exact (Kd.R_reads' HO303.out).2.1); rintro e w45 ⟨rfl, hb⟩; refine ⟨_, rfl, ?_⟩; have n0_ := Aside0.mk (Kd.R_below (by (with_reducible repeat (first | apply Kd.R_alloc | apply Kd.R_drewN | apply Kd.R_drew)); exact HO291.out) hb); have n1_ := Aside0.mk (Kd.R_below (by (with_reducible repeat (first | apply Kd.R_alloc | apply Kd.R_drewN | apply Kd.R_drew)); exact HO294.out) hb); have n2_ := Aside0.mk (Kd.S_below (by (with_reducible repeat (first | apply Kd.S_alloc | apply Kd.S_drewN | apply Kd.S_drew)); exact HO297.out) hb); have n3_ := Aside0.mk (Kd.R_below (by (with_reducible repeat (first | apply Kd.R_alloc | apply Kd.R_drewN | apply Kd.R_drew)); exact HO300.out) hb); have n4_ := Aside0.mk (Kd.R_below (by (with_reducible repeat (first | apply Kd.R_alloc | apply Kd.R_drewN | apply Kd.R_drew)); exact HO303.out) hb); have n5_ := Aside0.mk (Kd.R_below (by (with_reducible repeat (first | apply Kd.R_alloc | apply Kd.R_drewN | apply Kd.R_drew)); exact HO308.out) hb); have n6_ := Aside0.mk (Kd.R_below (by (with_reducible repeat (first | apply Kd.R_alloc | apply Kd.R_drewN | apply Kd.R_drew)); exact HO311.out) hb); have n7_ := Aside0.mk (Kd.S_below (by (with_reducible repeat (first | apply Kd.S_alloc | apply Kd.S_drewN | apply Kd.S_drew)); exact HO314.out) hb); have n8_ := Aside0.mk (Kd.R_below (by (with_reducible repeat (first | apply Kd.R_alloc | apply Kd.R_drewN | apply Kd.R_drew)); exact HO318.out) hb); have n9_ := Aside0.mk (Kd.R_below (by (with_reducible repeat (first | apply Kd.R_alloc | apply Kd.R_drewN | apply Kd.R_drew)); exact HO321.out) hb); have n10_ := Aside0.mk (blk_below (g := gb286) (o := .cells #[.int .i64 a0_0, .slice A0_1 l0_1.length c0_1, .slice A0_2 l0_2.length c0_2, .slice A0_3 l0_3.length c0_3] 25 (0, 0)) (by (with_reducible repeat (first | refine blk_drewN ?_ _ | refine blk_drew ?_ | refine blk_alloc ?_ _)); exact BK286.out) hb); have n11_ := Aside0.mk (blk_below (g := gb315) (o := .cells #[.int .i64 t305, .slice Ao34 t306.length co34, .slice Ao35 t309.length co35, .slice Ao36 t312.length co36] 30 (0, 0)) (by (with_reducible repeat (first | refine blk_drewN ?_ _ | refine blk_drew ?_ | refine blk_alloc ?_ _)); exact BK315.out) hb); have n12_ := Aside0.mk (below_step (by repeat (first | (with_reducible first | exact HB.out | apply below_alloc | apply pw_below_drewN | apply below_drew1 | refine below_set ?_ GE286.out | refine below_set ?_ GE315.out) | exact HB.out)) hb); clear HO291; clear HO294; clear HO297; clear HO300; clear HO303; clear HO308; clear HO311; clear HO314; clear HO318; clear HO321; clear BK286; clear BK315; clear HB; have HO291 := n0_; have HO294 := n1_; have HO297 := n2_; have HO300 := n3_; have HO303 := n4_; have HO308 := n5_; have HO311 := n6_; have HO314 := n7_; have HO318 := n8_; have HO321 := n9_; have BK286 := n10_; have BK315 := n11_; have HB := n12_; clear n0_ n1_ n2_ n3_ n4_ n5_ n6_ n7_ n8_ n9_ n10_ n11_ n12_; (try clear hb); (try clear hb2); (try clear hk); (try clear hi)))
          go_meet
          case rel => exact ⟨_, ((t322 != t304)), (by first | rfl | (simp; done) | (simp [*]; done)), H', ⟨by first | omega | exact Nat.le_refl _⟩, ⟨by (with_reducible repeat (first | apply Kd.R_alloc | apply Kd.R_drewN | apply Kd.R_drew)); exact Kd.R_mono HO303.out (fun _ hk => hk.2)⟩, ⟨by (with_reducible repeat (first | apply Kd.R_alloc | apply Kd.R_drewN | apply Kd.R_drew)); exact Kd.R_mono HO318.out (fun _ hk => ⟨hk.1.2, hk.2⟩)⟩, ⟨by (with_reducible repeat (first | apply Kd.R_alloc | apply Kd.R_drewN | apply Kd.R_drew)); exact Kd.R_mono HO321.out (fun _ hk => hk.2)⟩, ⟨by (with_reducible repeat (first | apply Kd.R_alloc | apply Kd.R_drewN | apply Kd.R_drew)); exact Kd.R_mono HO308.out (fun _ hk => ⟨hk.2, hk.1.1.1.1⟩)⟩, ⟨by (with_reducible repeat (first | apply Kd.R_alloc | apply Kd.R_drewN | apply Kd.R_drew)); exact Kd.R_mono HO311.out (fun _ hk => ⟨hk.2, hk.1.1.1.1⟩)⟩, ⟨by (with_reducible repeat (first | apply Kd.S_alloc | apply Kd.S_drewN | apply Kd.S_drew)); exact Kd.S_mono HO314.out (fun _ hk => ⟨hk.2, ⟨hk.1.1.1.1.1.1, hk.1.1.1.1.1.2⟩⟩)⟩, ⟨by (with_reducible repeat (first | refine blk_drewN ?_ _ | refine blk_drew ?_ | refine blk_alloc ?_ _)); exact BK286.out⟩, ⟨by (with_reducible repeat (first | refine blk_drewN ?_ _ | refine blk_drew ?_ | refine blk_alloc ?_ _)); exact BK315.out⟩, ⟨by repeat (first | (with_reducible first | exact HB.out | apply below_alloc | apply pw_below_drewN | apply below_drew1 | refine below_set ?_ GE286.out | refine below_set ?_ GE315.out) | exact HB.out)⟩⟩
        · replace c42 := Bool.eq_false_iff.mpr c42
          subst c42
          have H1 : (laws_FnExactDescend.j0 k l1 a2 t301 t304 t316 t319 t322 true a0_0 l0_1 l0_2 l0_3 t305 t306 t309 t312) = some true := by rw [if_neg (show ¬ (false = true) by decide)] at H; exact H
          clear H
          have H := H1
          clear H1
          have H' := Aside0.mk H
          clear H
          obtain ⟨Ao46, co46, eo46⟩ := Kd.R_slice HO321.out
          subst eo46
          obtain ⟨Ao47, co47, eo47⟩ := Kd.R_slice HO303.out
          subst eo47
          go_wp2_with (first | ((with_reducible refine gate_callee (f := 18) rfl ?_); refine goesL_ (some 49) rfl rfl Try.func18 (by kernel_rfl) rfl #[.slice Ao46 t319.length co46, .slice Ao47 t301.length co47] rfl (by (try simp only [List.map_toArray, List.map_cons, List.map_nil]); first | done | rfl | (simp only [List.length_drop, List.length_take]; rfl)) ?_; (with_reducible refine (laws_eqMoveS.calls k _ _ t319 _ _ t301 false _ ?side1 ?side2 ?side3 ?side4 A41.out).mono ?_); (case side1 => repeat (first | exact (Kd.R_reads' HO321.out).2.2 | (with_reducible refine Kd.C_alloc ?_ _) | (with_reducible refine Kd.C_drewN ?_ _) | (with_reducible refine Kd.C_drew ?_))); (case side2 => exact (Kd.R_reads' HO321.out).2.1); (case side3 => repeat (first | exact (Kd.R_reads' HO303.out).2.2 | (with_reducible refine Kd.C_alloc ?_ _) | (with_reducible refine Kd.C_drewN ?_ _) | (with_reducible refine Kd.C_drew ?_))); (case side4 => exact (Kd.R_reads' HO303.out).2.1); rintro e w48 ⟨rfl, hb⟩; refine ⟨_, rfl, ?_⟩; have n0_ := Aside0.mk (Kd.R_below (by (with_reducible repeat (first | apply Kd.R_alloc | apply Kd.R_drewN | apply Kd.R_drew)); exact HO291.out) hb); have n1_ := Aside0.mk (Kd.R_below (by (with_reducible repeat (first | apply Kd.R_alloc | apply Kd.R_drewN | apply Kd.R_drew)); exact HO294.out) hb); have n2_ := Aside0.mk (Kd.S_below (by (with_reducible repeat (first | apply Kd.S_alloc | apply Kd.S_drewN | apply Kd.S_drew)); exact HO297.out) hb); have n3_ := Aside0.mk (Kd.R_below (by (with_reducible repeat (first | apply Kd.R_alloc | apply Kd.R_drewN | apply Kd.R_drew)); exact HO300.out) hb); have n4_ := Aside0.mk (Kd.R_below (by (with_reducible repeat (first | apply Kd.R_alloc | apply Kd.R_drewN | apply Kd.R_drew)); exact HO303.out) hb); have n5_ := Aside0.mk (Kd.R_below (by (with_reducible repeat (first | apply Kd.R_alloc | apply Kd.R_drewN | apply Kd.R_drew)); exact HO308.out) hb); have n6_ := Aside0.mk (Kd.R_below (by (with_reducible repeat (first | apply Kd.R_alloc | apply Kd.R_drewN | apply Kd.R_drew)); exact HO311.out) hb); have n7_ := Aside0.mk (Kd.S_below (by (with_reducible repeat (first | apply Kd.S_alloc | apply Kd.S_drewN | apply Kd.S_drew)); exact HO314.out) hb); have n8_ := Aside0.mk (Kd.R_below (by (with_reducible repeat (first | apply Kd.R_alloc | apply Kd.R_drewN | apply Kd.R_drew)); exact HO318.out) hb); have n9_ := Aside0.mk (Kd.R_below (by (with_reducible repeat (first | apply Kd.R_alloc | apply Kd.R_drewN | apply Kd.R_drew)); exact HO321.out) hb); have n10_ := Aside0.mk (blk_below (g := gb286) (o := .cells #[.int .i64 a0_0, .slice A0_1 l0_1.length c0_1, .slice A0_2 l0_2.length c0_2, .slice A0_3 l0_3.length c0_3] 25 (0, 0)) (by (with_reducible repeat (first | refine blk_drewN ?_ _ | refine blk_drew ?_ | refine blk_alloc ?_ _)); exact BK286.out) hb); have n11_ := Aside0.mk (blk_below (g := gb315) (o := .cells #[.int .i64 t305, .slice Ao34 t306.length co34, .slice Ao35 t309.length co35, .slice Ao36 t312.length co36] 30 (0, 0)) (by (with_reducible repeat (first | refine blk_drewN ?_ _ | refine blk_drew ?_ | refine blk_alloc ?_ _)); exact BK315.out) hb); have n12_ := Aside0.mk (below_step (by repeat (first | (with_reducible first | exact HB.out | apply below_alloc | apply pw_below_drewN | apply below_drew1 | refine below_set ?_ GE286.out | refine below_set ?_ GE315.out) | exact HB.out)) hb); clear HO291; clear HO294; clear HO297; clear HO300; clear HO303; clear HO308; clear HO311; clear HO314; clear HO318; clear HO321; clear BK286; clear BK315; clear HB; have HO291 := n0_; have HO294 := n1_; have HO297 := n2_; have HO300 := n3_; have HO303 := n4_; have HO308 := n5_; have HO311 := n6_; have HO314 := n7_; have HO318 := n8_; have HO321 := n9_; have BK286 := n10_; have BK315 := n11_; have HB := n12_; clear n0_ n1_ n2_ n3_ n4_ n5_ n6_ n7_ n8_ n9_ n10_ n11_ n12_; (try clear hb); (try clear hb2); (try clear hk); (try clear hi)))
          go_meet
          case rel => exact ⟨_, (true), (by first | rfl | (simp; done) | (simp [*]; done)), H', ⟨by first | omega | exact Nat.le_refl _⟩, ⟨by (with_reducible repeat (first | apply Kd.R_alloc | apply Kd.R_drewN | apply Kd.R_drew)); exact Kd.R_mono HO303.out (fun _ hk => hk.2)⟩, ⟨by (with_reducible repeat (first | apply Kd.R_alloc | apply Kd.R_drewN | apply Kd.R_drew)); exact Kd.R_mono HO318.out (fun _ hk => ⟨hk.1.2, hk.2⟩)⟩, ⟨by (with_reducible repeat (first | apply Kd.R_alloc | apply Kd.R_drewN | apply Kd.R_drew)); exact Kd.R_mono HO321.out (fun _ hk => hk.2)⟩, ⟨by (with_reducible repeat (first | apply Kd.R_alloc | apply Kd.R_drewN | apply Kd.R_drew)); exact Kd.R_mono HO308.out (fun _ hk => ⟨hk.2, hk.1.1.1.1⟩)⟩, ⟨by (with_reducible repeat (first | apply Kd.R_alloc | apply Kd.R_drewN | apply Kd.R_drew)); exact Kd.R_mono HO311.out (fun _ hk => ⟨hk.2, hk.1.1.1.1⟩)⟩, ⟨by (with_reducible repeat (first | apply Kd.S_alloc | apply Kd.S_drewN | apply Kd.S_drew)); exact Kd.S_mono HO314.out (fun _ hk => ⟨hk.2, ⟨hk.1.1.1.1.1.1, hk.1.1.1.1.1.2⟩⟩)⟩, ⟨by (with_reducible repeat (first | refine blk_drewN ?_ _ | refine blk_drew ?_ | refine blk_alloc ?_ _)); exact BK286.out⟩, ⟨by (with_reducible repeat (first | refine blk_drewN ?_ _ | refine blk_drew ?_ | refine blk_alloc ?_ _)); exact BK315.out⟩, ⟨by repeat (first | (with_reducible first | exact HB.out | apply below_alloc | apply pw_below_drewN | apply below_drew1 | refine below_set ?_ GE286.out | refine below_set ?_ GE315.out) | exact HB.out)⟩⟩
      case rest =>
        clear HC17
        try clear c1
        try clear p2
        try clear c3
        try clear c4
        try clear c4b0
        try clear c4b1
        try clear c5
        try clear c7
        try clear c7b0
        try clear c9
        try clear c10
        try clear c16
        try clear c17
        try clear c18
        try clear c32
        try clear c42
        try clear hcz19_0
        try clear hcz19_1
        try clear hcz19_2
        try clear hcz19_3
        try clear hcz21_0
        try clear hcz21_1
        try clear hcz21_2
        try clear hcz21_3
        try clear hcz29_0
        try clear hcz29_1
        try clear hcz29_2
        try clear hcz29_3
        try clear hcz33_0
        try clear hcz33_1
        try clear hcz33_2
        try clear hcz33_3
        try clear hcz38_0
        try clear hcz38_1
        try clear hcz38_2
        try clear hcz38_3
        try clear hcz9_0
        try clear hcz9_1
        try clear hcz9_2
        try clear hcz9_3
        try clear hfz19_0
        try clear hfz19_1
        try clear hfz19_2
        try clear hfz19_3
        try clear hfz21_0
        try clear hfz21_1
        try clear hfz21_2
        try clear hfz21_3
        try clear hfz29_0
        try clear hfz29_1
        try clear hfz29_2
        try clear hfz29_3
        try clear hfz33_0
        try clear hfz33_1
        try clear hfz33_2
        try clear hfz33_3
        try clear hfz38_0
        try clear hfz38_1
        try clear hfz38_2
        try clear hfz38_3
        try clear hfz9_0
        try clear hfz9_1
        try clear hfz9_2
        try clear hfz9_3
        obtain ⟨kq, x55_16, rfl, HA, HJ16, HO_8, HO_11, HO_12, HO_316001, HO_316002, HO_316003, BK286, BK315, HB⟩ := hcut
        cases kq with
        | zero => exact absurd HA.out (by simp [laws_FnExactDescend.j0])
        | succ kj16 =>
          have H := HA.out
          clear HA
          simp only [laws_FnExactDescend.j0] at H
          by_cases c49 : x55_16 = true
          · subst c49
            have H1 : (some false) = some true := by rw [if_pos rfl] at H; exact H
            clear H
            have H := H1
            clear H1
            exact absurd H (by simp)
          · replace c49 := Bool.eq_false_iff.mpr c49
            subst c49
            have H1 : ((laws_toProblem.f kj16 a0_0 l0_1 l0_2 l0_3).bind fun bt324 => ((laws_eqProblem.f kj16 t305 t306 t309 t312 bt324.1 bt324.2.1 bt324.2.2.1 bt324.2.2.2).bind fun t334 => (if t334 = true then ((laws_toInt64S.f kj16 l1).bind fun t335 => ((laws_eqInt64S.f kj16 t316 t335).bind fun t338 => (if t338 = true then ((laws_markProblem.f kj16 t305 t306 t309 t312 1).bind fun b339 => ((laws_markInt64S.f kj16 t316 b339.1).bind fun bt340 => (if bt340.1 < 0 then (laws_FnExactDescend.j1 kj16 l1 a2 t301 t304 t319 true a0_0 l0_1 l0_2 l0_3) else ((laws_eqMoveS.f kj16 t319 t301).bind fun t342 => (if t342 = true then (laws_FnExactDescend.j1 kj16 l1 a2 t301 t304 t319 (t322 != t304) a0_0 l0_1 l0_2 l0_3) else (laws_FnExactDescend.j1 kj16 l1 a2 t301 t304 t319 true a0_0 l0_1 l0_2 l0_3)))))) else (some false)))) else (some false)))) = some true := by rw [if_neg (show ¬ (false = true) by decide)] at H; exact H
            clear H
            have H := H1
            clear H1
            replace H := Option.bind_eq_some_iff.mp H
            obtain ⟨⟨t324, t325, t328, t331⟩, A500, H⟩ := H
            replace H : ((laws_eqProblem.f kj16 t305 t306 t309 t312 t324 t325 t328 t331).bind fun t334 => (if t334 = true then ((laws_toInt64S.f kj16 l1).bind fun t335 => ((laws_eqInt64S.f kj16 t316 t335).bind fun t338 => (if t338 = true then ((laws_markProblem.f kj16 t305 t306 t309 t312 1).bind fun b339 => ((laws_markInt64S.f kj16 t316 b339.1).bind fun bt340 => (if bt340.1 < 0 then (laws_FnExactDescend.j1 kj16 l1 a2 t301 t304 t319 true a0_0 l0_1 l0_2 l0_3) else ((laws_eqMoveS.f kj16 t319 t301).bind fun t342 => (if t342 = true then (laws_FnExactDescend.j1 kj16 l1 a2 t301 t304 t319 (t322 != t304) a0_0 l0_1 l0_2 l0_3) else (laws_FnExactDescend.j1 kj16 l1 a2 t301 t304 t319 true a0_0 l0_1 l0_2 l0_3)))))) else (some false)))) else (some false))) = some true := H
            have A50 := Aside0.mk A500
            clear A500
            replace H := Option.bind_eq_some_iff.mp H
            obtain ⟨t334, A510, H⟩ := H
            replace H : (if t334 = true then ((laws_toInt64S.f kj16 l1).bind fun t335 => ((laws_eqInt64S.f kj16 t316 t335).bind fun t338 => (if t338 = true then ((laws_markProblem.f kj16 t305 t306 t309 t312 1).bind fun b339 => ((laws_markInt64S.f kj16 t316 b339.1).bind fun bt340 => (if bt340.1 < 0 then (laws_FnExactDescend.j1 kj16 l1 a2 t301 t304 t319 true a0_0 l0_1 l0_2 l0_3) else ((laws_eqMoveS.f kj16 t319 t301).bind fun t342 => (if t342 = true then (laws_FnExactDescend.j1 kj16 l1 a2 t301 t304 t319 (t322 != t304) a0_0 l0_1 l0_2 l0_3) else (laws_FnExactDescend.j1 kj16 l1 a2 t301 t304 t319 true a0_0 l0_1 l0_2 l0_3)))))) else (some false)))) else (some false)) = some true := H
            have A51 := Aside0.mk A510
            clear A510
            by_cases c52 : t334 = true
            · subst c52
              have H1 : ((laws_toInt64S.f kj16 l1).bind fun t335 => ((laws_eqInt64S.f kj16 t316 t335).bind fun t338 => (if t338 = true then ((laws_markProblem.f kj16 t305 t306 t309 t312 1).bind fun b339 => ((laws_markInt64S.f kj16 t316 b339.1).bind fun bt340 => (if bt340.1 < 0 then (laws_FnExactDescend.j1 kj16 l1 a2 t301 t304 t319 true a0_0 l0_1 l0_2 l0_3) else ((laws_eqMoveS.f kj16 t319 t301).bind fun t342 => (if t342 = true then (laws_FnExactDescend.j1 kj16 l1 a2 t301 t304 t319 (t322 != t304) a0_0 l0_1 l0_2 l0_3) else (laws_FnExactDescend.j1 kj16 l1 a2 t301 t304 t319 true a0_0 l0_1 l0_2 l0_3)))))) else (some false)))) = some true := by rw [if_pos rfl] at H; exact H
              clear H
              have H := H1
              clear H1
              replace H := Option.bind_eq_some_iff.mp H
              obtain ⟨t335, A530, H⟩ := H
              replace H : ((laws_eqInt64S.f kj16 t316 t335).bind fun t338 => (if t338 = true then ((laws_markProblem.f kj16 t305 t306 t309 t312 1).bind fun b339 => ((laws_markInt64S.f kj16 t316 b339.1).bind fun bt340 => (if bt340.1 < 0 then (laws_FnExactDescend.j1 kj16 l1 a2 t301 t304 t319 true a0_0 l0_1 l0_2 l0_3) else ((laws_eqMoveS.f kj16 t319 t301).bind fun t342 => (if t342 = true then (laws_FnExactDescend.j1 kj16 l1 a2 t301 t304 t319 (t322 != t304) a0_0 l0_1 l0_2 l0_3) else (laws_FnExactDescend.j1 kj16 l1 a2 t301 t304 t319 true a0_0 l0_1 l0_2 l0_3)))))) else (some false))) = some true := H
              have A53 := Aside0.mk A530
              clear A530
              replace H := Option.bind_eq_some_iff.mp H
              obtain ⟨t338, A540, H⟩ := H
              replace H : (if t338 = true then ((laws_markProblem.f kj16 t305 t306 t309 t312 1).bind fun b339 => ((laws_markInt64S.f kj16 t316 b339.1).bind fun bt340 => (if bt340.1 < 0 then (laws_FnExactDescend.j1 kj16 l1 a2 t301 t304 t319 true a0_0 l0_1 l0_2 l0_3) else ((laws_eqMoveS.f kj16 t319 t301).bind fun t342 => (if t342 = true then (laws_FnExactDescend.j1 kj16 l1 a2 t301 t304 t319 (t322 != t304) a0_0 l0_1 l0_2 l0_3) else (laws_FnExactDescend.j1 kj16 l1 a2 t301 t304 t319 true a0_0 l0_1 l0_2 l0_3)))))) else (some false)) = some true := H
              have A54 := Aside0.mk A540
              clear A540
              by_cases c55 : t338 = true
              · subst c55
                have H1 : ((laws_markProblem.f kj16 t305 t306 t309 t312 1).bind fun b339 => ((laws_markInt64S.f kj16 t316 b339.1).bind fun bt340 => (if bt340.1 < 0 then (laws_FnExactDescend.j1 kj16 l1 a2 t301 t304 t319 true a0_0 l0_1 l0_2 l0_3) else ((laws_eqMoveS.f kj16 t319 t301).bind fun t342 => (if t342 = true then (laws_FnExactDescend.j1 kj16 l1 a2 t301 t304 t319 (t322 != t304) a0_0 l0_1 l0_2 l0_3) else (laws_FnExactDescend.j1 kj16 l1 a2 t301 t304 t319 true a0_0 l0_1 l0_2 l0_3)))))) = some true := by rw [if_pos rfl] at H; exact H
                clear H
                have H := H1
                clear H1
                replace H := Option.bind_eq_some_iff.mp H
                obtain ⟨⟨t339, m306, m309, m312⟩, A560, H⟩ := H
                replace H : ((laws_markInt64S.f kj16 t316 t339).bind fun bt340 => (if bt340.1 < 0 then (laws_FnExactDescend.j1 kj16 l1 a2 t301 t304 t319 true a0_0 l0_1 l0_2 l0_3) else ((laws_eqMoveS.f kj16 t319 t301).bind fun t342 => (if t342 = true then (laws_FnExactDescend.j1 kj16 l1 a2 t301 t304 t319 (t322 != t304) a0_0 l0_1 l0_2 l0_3) else (laws_FnExactDescend.j1 kj16 l1 a2 t301 t304 t319 true a0_0 l0_1 l0_2 l0_3))))) = some true := H
                have A56 := Aside0.mk A560
                clear A560
                replace H := Option.bind_eq_some_iff.mp H
                obtain ⟨⟨t340, t341⟩, A570, H⟩ := H
                replace H : (if t340 < 0 then (laws_FnExactDescend.j1 kj16 l1 a2 t301 t304 t319 true a0_0 l0_1 l0_2 l0_3) else ((laws_eqMoveS.f kj16 t319 t301).bind fun t342 => (if t342 = true then (laws_FnExactDescend.j1 kj16 l1 a2 t301 t304 t319 (t322 != t304) a0_0 l0_1 l0_2 l0_3) else (laws_FnExactDescend.j1 kj16 l1 a2 t301 t304 t319 true a0_0 l0_1 l0_2 l0_3)))) = some true := H
                have A57 := Aside0.mk A570
                clear A570
                have HC58 := Aside0.mk H
                clear H
                try go_wp2
                have n0_ := Aside0.mk (Kd.R_drew HO_8.out)
                have n1_ := Aside0.mk (Kd.R_drew HO_11.out)
                have n2_ := Aside0.mk (Kd.R_drew HO_12.out)
                have n3_ := Aside0.mk (Kd.R_drew HO_316001.out)
                have n4_ := Aside0.mk (Kd.R_drew HO_316002.out)
                have n5_ := Aside0.mk (Kd.S_drew HO_316003.out)
                have n6_ := Aside0.mk (blk_drew BK286.out)
                have n7_ := Aside0.mk (blk_drew BK315.out)
                have n8_ := Aside0.mk (below_drew1 HB.out)
                clear HO_8
                clear HO_11
                clear HO_12
                clear HO_316001
                clear HO_316002
                clear HO_316003
                clear BK286
                clear BK315
                clear HB
                have HO_8 := n0_
                have HO_11 := n1_
                have HO_12 := n2_
                have HO_316001 := n3_
                have HO_316002 := n4_
                have HO_316003 := n5_
                have BK286 := n6_
                have BK315 := n7_
                have HB := n8_
                clear n0_ n1_ n2_ n3_ n4_ n5_ n6_ n7_ n8_
                refine start_ (n := 5) (S := fun w' => w'.cell? ⟨gb315, 0, none⟩ = some (.int .i64 t305) ∧ w'.cell? ⟨gb315, 1, none⟩ = some (.slice Ao34 t306.length co34) ∧ w'.cell? ⟨gb315, 2, none⟩ = some (.slice Ao35 t309.length co35) ∧ w'.cell? ⟨gb315, 3, none⟩ = some (.slice Ao36 t312.length co36) ∧ w'.cell? ⟨gb286, 0, none⟩ = some (.int .i64 a0_0) ∧ w'.cell? ⟨gb286, 1, none⟩ = some (.slice A0_1 l0_1.length c0_1) ∧ w'.cell? ⟨gb286, 2, none⟩ = some (.slice A0_2 l0_2.length c0_2) ∧ w'.cell? ⟨gb286, 3, none⟩ = some (.slice A0_3 l0_3.length c0_3)) (ds := []) #[false, false, false, false, false] (by kernel_rfl) rfl rfl ⟨(blk_cell BK315.out 0).trans rfl, (blk_cell BK315.out 1).trans rfl, (blk_cell BK315.out 2).trans rfl, (blk_cell BK315.out 3).trans rfl, (blk_cell BK286.out 0).trans rfl, (blk_cell BK286.out 1).trans rfl, (blk_cell BK286.out 2).trans rfl, (blk_cell BK286.out 3).trans rfl⟩ (fun hHeld => ?_)
                generalize wc.drew = w59 at HO_8 HO_11 HO_12 HO_316001 HO_316002 HO_316003 BK286 BK315 HB hHeld ⊢
                refine take_ (i := 0) (N := some 56) (v := ?_) (a' := ?_) #[true, false, false, false, false] rfl rfl (by kernel_rfl) (fun _ _ _ h => h) (Or.inl ⟨by rfl, ?_⟩) hHeld ?_ ?_
                rotate_left
                · rintro w' ⟨s0, s1, s2, s3, s4, s5, s6, s7⟩
                  go_simp
                  with_reducible rfl
                rotate_left
                · simp only [Act.put, List.setIfInBounds_toArray, List.set_cons_zero, List.set_cons_succ, i64_w, i32_w]
                  rfl
                refine take_ (i := 1) (N := some 57) (v := ?_) (a' := ?_) #[true, true, false, false, false] rfl rfl (by kernel_rfl) (fun _ _ _ h => h) (Or.inl ⟨by rfl, ?_⟩) hHeld ?_ ?_
                rotate_left
                · rintro w' ⟨s0, s1, s2, s3, s4, s5, s6, s7⟩
                  go_simp
                  with_reducible rfl
                rotate_left
                · simp only [Act.put, List.setIfInBounds_toArray, List.set_cons_zero, List.set_cons_succ, i64_w, i32_w]
                  rfl
                refine one_ (i := 2) (N := some 58) #[true, true, true, false, false] rfl rfl (by kernel_rfl) (by first | decide | (simp only [bet_E]; decide)) (fun K hK => ?_)
                refine goes_ Try.func9 (by kernel_rfl) rfl #[.agg #[.int .i64 a0_0, .slice A0_1 l0_1.length c0_1, .slice A0_2 l0_2.length c0_2, .slice A0_3 l0_3.length c0_3]] (by rfl) rfl rfl (by (try simp only [List.map_toArray, List.map_cons, List.map_nil]); first | done | rfl | (simp only [List.length_drop, List.length_take]; rfl)) ?_
                with_reducible refine (laws_toProblem.calls kj16 a0_0 _ _ l0_1 _ _ l0_2 _ _ l0_3 t324 t325 t328 t331 _ ?side1 ?side2 ?side3 ?side4 ?side5 ?side6 A50.out).mono ?_
                (case side1 => repeat (first | exact (Kd.C_below HR0_1.out HB.out) | (with_reducible refine Kd.C_alloc ?_ _) | (with_reducible refine Kd.C_drewN ?_ _) | (with_reducible refine Kd.C_drew ?_)))
                (case side2 => exact HC0_1.out)
                (case side3 => repeat (first | exact (Kd.C_below HR0_2.out HB.out) | (with_reducible refine Kd.C_alloc ?_ _) | (with_reducible refine Kd.C_drewN ?_ _) | (with_reducible refine Kd.C_drew ?_)))
                (case side4 => exact HC0_2.out)
                (case side5 => repeat (first | exact (Kd.C_below HR0_3.out HB.out) | (with_reducible refine Kd.C_alloc ?_ _) | (with_reducible refine Kd.C_drewN ?_ _) | (with_reducible refine Kd.C_drew ?_)))
                (case side6 => exact HC0_3.out)
                rintro e w60 ⟨v326, v329, v332, rfl, ho0, ho1, ho2, hb⟩
                refine ⟨_, rfl, ?_⟩
                obtain ⟨loAo63, hiAo63, hl_, hh_, ho2⟩ := S_inV (Q := fun n_ => gb286 < n_ ∧ gb315 < n_) ho2 ⟨(blk_lt (g := gb286) (o := .cells #[.int .i64 a0_0, .slice A0_1 l0_1.length c0_1, .slice A0_2 l0_2.length c0_2, .slice A0_3 l0_3.length c0_3] 25 (0, 0)) (by (with_reducible repeat (first | refine blk_drewN ?_ _ | refine blk_drew ?_ | refine blk_alloc ?_ _)); exact BK286.out)), (blk_lt (g := gb315) (o := .cells #[.int .i64 t305, .slice Ao34 t306.length co34, .slice Ao35 t309.length co35, .slice Ao36 t312.length co36] 30 (0, 0)) (by (with_reducible repeat (first | refine blk_drewN ?_ _ | refine blk_drew ?_ | refine blk_alloc ?_ _)); exact BK315.out))⟩
                have HLAo63 := Aside0.mk (show gb286 < loAo63 ∧ gb315 < loAo63 from hl_); have HHAo63 := Aside0.mk hh_; clear hl_ hh_
                have n0_ := Aside0.mk (Kd.R_below (by (with_reducible repeat (first | apply Kd.R_alloc | apply Kd.R_drewN | apply Kd.R_drew)); exact HO_8.out) hb)
                have n1_ := Aside0.mk (Kd.R_mono (Kd.R_told (Kd.R_told (Kd.R_old (by (with_reducible repeat (first | apply Kd.R_alloc | apply Kd.R_drewN | apply Kd.R_drew)); exact HO_11.out) hb) (Kd.R_base ho0)) (Kd.R_base ho1)) (fun _ h_ => h_.1))
                have n2_ := Aside0.mk (Kd.R_below (by (with_reducible repeat (first | apply Kd.R_alloc | apply Kd.R_drewN | apply Kd.R_drew)); exact HO_12.out) hb)
                have n3_ := Aside0.mk (Kd.R_mono (Kd.R_told (Kd.R_told (Kd.R_old (by (with_reducible repeat (first | apply Kd.R_alloc | apply Kd.R_drewN | apply Kd.R_drew)); exact HO_316001.out) hb) (Kd.R_base ho0)) (Kd.R_base ho1)) (fun _ h_ => h_.1))
                have n4_ := Aside0.mk (Kd.R_mono (Kd.R_told (Kd.R_told (Kd.R_old (by (with_reducible repeat (first | apply Kd.R_alloc | apply Kd.R_drewN | apply Kd.R_drew)); exact HO_316002.out) hb) (Kd.R_base ho0)) (Kd.R_base ho1)) (fun _ h_ => h_.1))
                have n5_ := Aside0.mk (Kd.S_mono (Kd.S_told (Kd.S_told (Kd.S_told (Kd.S_old (by (with_reducible repeat (first | apply Kd.S_alloc | apply Kd.S_drewN | apply Kd.S_drew)); exact HO_316003.out) hb) (Kd.R_base ho0)) (Kd.R_base ho1)) (Kd.S_base ho2)) (fun _ h_ => h_.1))
                have n6_ := Aside0.mk (Kd.R_lower (Kd.R_new' (Kd.R_new' (Kd.R_new' ho0 (Kd.R_lt (by (with_reducible repeat (first | apply Kd.R_alloc | apply Kd.R_drewN | apply Kd.R_drew)); exact HO_11.out))) (Kd.R_lt (by (with_reducible repeat (first | apply Kd.R_alloc | apply Kd.R_drewN | apply Kd.R_drew)); exact HO_316001.out))) (Kd.R_lt (by (with_reducible repeat (first | apply Kd.R_alloc | apply Kd.R_drewN | apply Kd.R_drew)); exact HO_316002.out))) (below_size (by repeat (first | (with_reducible first | exact HB.out | apply below_alloc | apply pw_below_drewN | apply below_drew1 | refine below_set ?_ GE286.out | refine below_set ?_ GE315.out) | exact HB.out))))
                have n7_ := Aside0.mk (Kd.R_lower (Kd.R_new' (Kd.R_new' (Kd.R_new' ho1 (Kd.R_lt (by (with_reducible repeat (first | apply Kd.R_alloc | apply Kd.R_drewN | apply Kd.R_drew)); exact HO_11.out))) (Kd.R_lt (by (with_reducible repeat (first | apply Kd.R_alloc | apply Kd.R_drewN | apply Kd.R_drew)); exact HO_316001.out))) (Kd.R_lt (by (with_reducible repeat (first | apply Kd.R_alloc | apply Kd.R_drewN | apply Kd.R_drew)); exact HO_316002.out))) (below_size (by repeat (first | (with_reducible first | exact HB.out | apply below_alloc | apply pw_below_drewN | apply below_drew1 | refine below_set ?_ GE286.out | refine below_set ?_ GE315.out) | exact HB.out))))
                have n8_ := Aside0.mk (Kd.S_lower (Kd.S_new' (Kd.S_new' (Kd.S_new' (Kd.S_new' ho2 (Kd.R_lt (by (with_reducible repeat (first | apply Kd.R_alloc | apply Kd.R_drewN | apply Kd.R_drew)); exact HO_11.out))) (Kd.R_lt (by (with_reducible repeat (first | apply Kd.R_alloc | apply Kd.R_drewN | apply Kd.R_drew)); exact HO_316001.out))) (Kd.R_lt (by (with_reducible repeat (first | apply Kd.R_alloc | apply Kd.R_drewN | apply Kd.R_drew)); exact HO_316002.out))) (Kd.S_lt (by (with_reducible repeat (first | apply Kd.S_alloc | apply Kd.S_drewN | apply Kd.S_drew)); exact HO_316003.out))) (below_size (by repeat (first | (with_reducible first | exact HB.out | apply below_alloc | apply pw_below_drewN | apply below_drew1 | refine below_set ?_ GE286.out | refine below_set ?_ GE315.out) | exact HB.out))))
                have n9_ := Aside0.mk (blk_below (g := gb286) (o := .cells #[.int .i64 a0_0, .slice A0_1 l0_1.length c0_1, .slice A0_2 l0_2.length c0_2, .slice A0_3 l0_3.length c0_3] 25 (0, 0)) (by (with_reducible repeat (first | refine blk_drewN ?_ _ | refine blk_drew ?_ | refine blk_alloc ?_ _)); exact BK286.out) hb)
                have n10_ := Aside0.mk (blk_below (g := gb315) (o := .cells #[.int .i64 t305, .slice Ao34 t306.length co34, .slice Ao35 t309.length co35, .slice Ao36 t312.length co36] 30 (0, 0)) (by (with_reducible repeat (first | refine blk_drewN ?_ _ | refine blk_drew ?_ | refine blk_alloc ?_ _)); exact BK315.out) hb)
                have n11_ := Aside0.mk (below_step (by repeat (first | (with_reducible first | exact HB.out | apply below_alloc | apply pw_below_drewN | apply below_drew1 | refine below_set ?_ GE286.out | refine below_set ?_ GE315.out) | exact HB.out)) hb)
                clear HO_8
                clear HO_11
                clear HO_12
                clear HO_316001
                clear HO_316002
                clear HO_316003
                clear BK286
                clear BK315
                clear HB
                have HO_8 := n0_
                have HO_11 := n1_
                have HO_12 := n2_
                have HO_316001 := n3_
                have HO_316002 := n4_
                have HO_316003 := n5_
                have HO327 := n6_
                have HO330 := n7_
                have HO333 := n8_
                have BK286 := n9_
                have BK315 := n10_
                have HB := n11_
                clear n0_ n1_ n2_ n3_ n4_ n5_ n6_ n7_ n8_ n9_ n10_ n11_
                (try clear hb)
                (try clear hb2)
                (try clear hk)
                (try clear hi)
                (try clear ho0)
                (try clear ho1)
                (try clear ho2)
                obtain ⟨Ao61, co61, eo61⟩ := Kd.R_slice HO327.out
                (first | subst eo61 | (injection eo61 with f1_ f2_ f3_; have f4_ := f1_.symm; have f5_ := f3_.symm; clear f1_ f2_ f3_; subst f4_; subst f5_))
                obtain ⟨Ao62, co62, eo62⟩ := Kd.R_slice HO330.out
                (first | subst eo62 | (injection eo62 with f1_ f2_ f3_; have f4_ := f1_.symm; have f5_ := f3_.symm; clear f1_ f2_ f3_; subst f4_; subst f5_))
                obtain ⟨Ao63, co63, eo63⟩ := Kd.S_slice HO333.out
                (first | subst eo63 | (injection eo63 with f1_ f2_ f3_; have f4_ := f1_.symm; have f5_ := f3_.symm; clear f1_ f2_ f3_; subst f4_; subst f5_))
                refine hK.out _ _ ⟨(blk_cell BK315.out 0).trans rfl, (blk_cell BK315.out 1).trans rfl, (blk_cell BK315.out 2).trans rfl, (blk_cell BK315.out 3).trans rfl, (blk_cell BK286.out 0).trans rfl, (blk_cell BK286.out 1).trans rfl, (blk_cell BK286.out 2).trans rfl, (blk_cell BK286.out 3).trans rfl⟩ (fun hHeld => ?_)
                clear hK K
                refine norm_ (a' := ?_) ?_ ?_
                rotate_left
                · show Act.put _ (some 58) _ = _
                  simp only [Act.put, List.setIfInBounds_toArray, List.set_cons_zero, List.set_cons_succ, i64_w, i32_w]
                  rfl
                refine one_ (i := 3) (N := some 59) #[true, true, true, true, false] rfl rfl (by kernel_rfl) (by first | decide | (simp only [bet_E]; decide)) (fun K hK => ?_)
                refine goes_ Try.func12 (by kernel_rfl) rfl #[.agg #[.int .i64 t305, .slice Ao34 t306.length co34, .slice Ao35 t309.length co35, .slice Ao36 t312.length co36], .agg #[.int .i64 t324, .slice Ao61 t325.length co61, .slice Ao62 t328.length co62, .slice Ao63 t331.length co63]] (by rfl) rfl rfl (by (try simp only [List.map_toArray, List.map_cons, List.map_nil]); first | done | rfl | (simp only [List.length_drop, List.length_take]; rfl)) ?_
                with_reducible refine (laws_eqProblem.calls kj16 t305 _ _ t306 _ _ t309 _ _ t312 t324 _ _ t325 _ _ t328 _ _ t331 true _ ?side1 ?side2 ?side3 ?side4 ?side5 ?side6 ?side7 ?side8 ?side9 ?side10 ?side11 ?side12 A51.out).mono ?_
                (case side1 => repeat (first | exact (Kd.R_reads' HO_316001.out).2.2 | (with_reducible refine Kd.C_alloc ?_ _) | (with_reducible refine Kd.C_drewN ?_ _) | (with_reducible refine Kd.C_drew ?_)))
                (case side2 => exact (Kd.R_reads' HO_316001.out).2.1)
                (case side3 => repeat (first | exact (Kd.R_reads' HO_316002.out).2.2 | (with_reducible refine Kd.C_alloc ?_ _) | (with_reducible refine Kd.C_drewN ?_ _) | (with_reducible refine Kd.C_drew ?_)))
                (case side4 => exact (Kd.R_reads' HO_316002.out).2.1)
                (case side5 => repeat (first | exact (S_readsB HO_316003.out).2.2 | (with_reducible refine Kd.C_alloc ?_ _) | (with_reducible refine Kd.C_drewN ?_ _) | (with_reducible refine Kd.C_drew ?_)))
                (case side6 => exact (S_readsB HO_316003.out).2.1)
                (case side7 => repeat (first | exact (Kd.R_reads' HO327.out).2.2 | (with_reducible refine Kd.C_alloc ?_ _) | (with_reducible refine Kd.C_drewN ?_ _) | (with_reducible refine Kd.C_drew ?_)))
                (case side8 => exact (Kd.R_reads' HO327.out).2.1)
                (case side9 => repeat (first | exact (Kd.R_reads' HO330.out).2.2 | (with_reducible refine Kd.C_alloc ?_ _) | (with_reducible refine Kd.C_drewN ?_ _) | (with_reducible refine Kd.C_drew ?_)))
                (case side10 => exact (Kd.R_reads' HO330.out).2.1)
                (case side11 => repeat (first | exact (S_readsB HO333.out).2.2 | (with_reducible refine Kd.C_alloc ?_ _) | (with_reducible refine Kd.C_drewN ?_ _) | (with_reducible refine Kd.C_drew ?_)))
                (case side12 => exact (S_readsB HO333.out).2.1)
                rintro e w64 ⟨rfl, hb⟩
                refine ⟨_, rfl, ?_⟩
                have n0_ := Aside0.mk (Kd.R_below (by (with_reducible repeat (first | apply Kd.R_alloc | apply Kd.R_drewN | apply Kd.R_drew)); exact HO_8.out) hb)
                have n1_ := Aside0.mk (Kd.R_below (by (with_reducible repeat (first | apply Kd.R_alloc | apply Kd.R_drewN | apply Kd.R_drew)); exact HO_11.out) hb)
                have n2_ := Aside0.mk (Kd.R_below (by (with_reducible repeat (first | apply Kd.R_alloc | apply Kd.R_drewN | apply Kd.R_drew)); exact HO_12.out) hb)
                have n3_ := Aside0.mk (Kd.R_below (by (with_reducible repeat (first | apply Kd.R_alloc | apply Kd.R_drewN | apply Kd.R_drew)); exact HO_316001.out) hb)
                have n4_ := Aside0.mk (Kd.R_below (by (with_reducible repeat (first | apply Kd.R_alloc | apply Kd.R_drewN | apply Kd.R_drew)); exact HO_316002.out) hb)
                have n5_ := Aside0.mk (Kd.S_below (by (with_reducible repeat (first | apply Kd.S_alloc | apply Kd.S_drewN | apply Kd.S_drew)); exact HO_316003.out) hb)
                have n6_ := Aside0.mk (Kd.R_below (by (with_reducible repeat (first | apply Kd.R_alloc | apply Kd.R_drewN | apply Kd.R_drew)); exact HO327.out) hb)
                have n7_ := Aside0.mk (Kd.R_below (by (with_reducible repeat (first | apply Kd.R_alloc | apply Kd.R_drewN | apply Kd.R_drew)); exact HO330.out) hb)
                have n8_ := Aside0.mk (Kd.S_below (by (with_reducible repeat (first | apply Kd.S_alloc | apply Kd.S_drewN | apply Kd.S_drew)); exact HO333.out) hb)
                have n9_ := Aside0.mk (blk_below (g := gb286) (o := .cells #[.int .i64 a0_0, .slice A0_1 l0_1.length c0_1, .slice A0_2 l0_2.length c0_2, .slice A0_3 l0_3.length c0_3] 25 (0, 0)) (by (with_reducible repeat (first | refine blk_drewN ?_ _ | refine blk_drew ?_ | refine blk_alloc ?_ _)); exact BK286.out) hb)
                have n10_ := Aside0.mk (blk_below (g := gb315) (o := .cells #[.int .i64 t305, .slice Ao34 t306.length co34, .slice Ao35 t309.length co35, .slice Ao36 t312.length co36] 30 (0, 0)) (by (with_reducible repeat (first | refine blk_drewN ?_ _ | refine blk_drew ?_ | refine blk_alloc ?_ _)); exact BK315.out) hb)
                have n11_ := Aside0.mk (below_step (by repeat (first | (with_reducible first | exact HB.out | apply below_alloc | apply pw_below_drewN | apply below_drew1 | refine below_set ?_ GE286.out | refine below_set ?_ GE315.out) | exact HB.out)) hb)
                clear HO_8
                clear HO_11
                clear HO_12
                clear HO_316001
                clear HO_316002
                clear HO_316003
                clear HO327
                clear HO330
                clear HO333
                clear BK286
                clear BK315
                clear HB
                have HO_8 := n0_
                have HO_11 := n1_
                have HO_12 := n2_
                have HO_316001 := n3_
                have HO_316002 := n4_
                have HO_316003 := n5_
                have HO327 := n6_
                have HO330 := n7_
                have HO333 := n8_
                have BK286 := n9_
                have BK315 := n10_
                have HB := n11_
                clear n0_ n1_ n2_ n3_ n4_ n5_ n6_ n7_ n8_ n9_ n10_ n11_
                (try clear hb)
                (try clear hb2)
                (try clear hk)
                (try clear hi)
                refine hK.out _ _ ⟨(blk_cell BK315.out 0).trans rfl, (blk_cell BK315.out 1).trans rfl, (blk_cell BK315.out 2).trans rfl, (blk_cell BK315.out 3).trans rfl, (blk_cell BK286.out 0).trans rfl, (blk_cell BK286.out 1).trans rfl, (blk_cell BK286.out 2).trans rfl, (blk_cell BK286.out 3).trans rfl⟩ (fun hHeld => ?_)
                clear hK K
                refine norm_ (a' := ?_) ?_ ?_
                rotate_left
                · show Act.put _ (some 59) _ = _
                  simp only [Act.put, List.setIfInBounds_toArray, List.set_cons_zero, List.set_cons_succ, i64_w, i32_w]
                  rfl
                refine pure_ (i := 4) (N := some 60) (v := ?_) (a' := ?_) #[true, true, true, true, true] rfl rfl (by kernel_rfl) (fun _ _ _ h => h) (Or.inl ⟨by rfl, ?_⟩) ?_ ?_
                rotate_left
                · intro w'
                  go_simp
                  with_reducible rfl
                rotate_left
                · simp only [Act.put, List.setIfInBounds_toArray, List.set_cons_zero, List.set_cons_succ, i64_w, i32_w]
                  rfl
                refine done_ (by kernel_rfl) ?_
                go_upto_region 20 with (first | ((with_reducible refine gate_callee (f := 10) rfl ?_); refine goesL_ (some 63) rfl rfl Try.func10 (by kernel_rfl) rfl #[.slice A1 l1.length c1] rfl (by (try simp only [List.map_toArray, List.map_cons, List.map_nil]); first | done | rfl | (simp only [List.length_drop, List.length_take]; rfl)) ?_; (with_reducible refine (laws_toInt64S.calls kj16 _ _ l1 t335 _ ?side1 ?side2 A53.out).mono ?_); (case side1 => repeat (first | exact (Kd.C_below HR1.out HB.out) | (with_reducible refine Kd.C_alloc ?_ _) | (with_reducible refine Kd.C_drewN ?_ _) | (with_reducible refine Kd.C_drew ?_))); (case side2 => exact HC1.out); rintro e w65 ⟨v336, rfl, ho0, hb⟩; refine ⟨_, rfl, ?_⟩; have n0_ := Aside0.mk (Kd.R_below (by (with_reducible repeat (first | apply Kd.R_alloc | apply Kd.R_drewN | apply Kd.R_drew)); exact HO_8.out) hb); have n1_ := Aside0.mk (Kd.R_elder' (by (with_reducible repeat (first | apply Kd.R_alloc | apply Kd.R_drewN | apply Kd.R_drew)); exact HO_11.out) (Kd.R_base ho0) hb); have n2_ := Aside0.mk (Kd.R_below (by (with_reducible repeat (first | apply Kd.R_alloc | apply Kd.R_drewN | apply Kd.R_drew)); exact HO_12.out) hb); have n3_ := Aside0.mk (Kd.R_elder' (by (with_reducible repeat (first | apply Kd.R_alloc | apply Kd.R_drewN | apply Kd.R_drew)); exact HO_316001.out) (Kd.R_base ho0) hb); have n4_ := Aside0.mk (Kd.R_elder' (by (with_reducible repeat (first | apply Kd.R_alloc | apply Kd.R_drewN | apply Kd.R_drew)); exact HO_316002.out) (Kd.R_base ho0) hb); have n5_ := Aside0.mk (Kd.S_elder' (by (with_reducible repeat (first | apply Kd.S_alloc | apply Kd.S_drewN | apply Kd.S_drew)); exact HO_316003.out) (Kd.R_base ho0) hb); have n6_ := Aside0.mk (Kd.R_elder' (by (with_reducible repeat (first | apply Kd.R_alloc | apply Kd.R_drewN | apply Kd.R_drew)); exact HO327.out) (Kd.R_base ho0) hb); have n7_ := Aside0.mk (Kd.R_elder' (by (with_reducible repeat (first | apply Kd.R_alloc | apply Kd.R_drewN | apply Kd.R_drew)); exact HO330.out) (Kd.R_base ho0) hb); have n8_ := Aside0.mk (Kd.S_elder' (by (with_reducible repeat (first | apply Kd.S_alloc | apply Kd.S_drewN | apply Kd.S_drew)); exact HO333.out) (Kd.R_base ho0) hb); have n9_ := Aside0.mk (Kd.R_lower (Kd.R_new' (Kd.R_new' (Kd.R_new' (Kd.R_new' (Kd.R_new' ho0 (Kd.R_lt (by (with_reducible repeat (first | apply Kd.R_alloc | apply Kd.R_drewN | apply Kd.R_drew)); exact HO_11.out))) (Kd.R_lt (by (with_reducible repeat (first | apply Kd.R_alloc | apply Kd.R_drewN | apply Kd.R_drew)); exact HO_316001.out))) (Kd.R_lt (by (with_reducible repeat (first | apply Kd.R_alloc | apply Kd.R_drewN | apply Kd.R_drew)); exact HO_316002.out))) (Kd.R_lt (by (with_reducible repeat (first | apply Kd.R_alloc | apply Kd.R_drewN | apply Kd.R_drew)); exact HO327.out))) (Kd.R_lt (by (with_reducible repeat (first | apply Kd.R_alloc | apply Kd.R_drewN | apply Kd.R_drew)); exact HO330.out))) (below_size (by repeat (first | (with_reducible first | exact HB.out | apply below_alloc | apply pw_below_drewN | apply below_drew1 | refine below_set ?_ GE286.out | refine below_set ?_ GE315.out) | exact HB.out)))); have n10_ := Aside0.mk (blk_below (g := gb286) (o := .cells #[.int .i64 a0_0, .slice A0_1 l0_1.length c0_1, .slice A0_2 l0_2.length c0_2, .slice A0_3 l0_3.length c0_3] 25 (0, 0)) (by (with_reducible repeat (first | refine blk_drewN ?_ _ | refine blk_drew ?_ | refine blk_alloc ?_ _)); exact BK286.out) hb); have n11_ := Aside0.mk (blk_below (g := gb315) (o := .cells #[.int .i64 t305, .slice Ao34 t306.length co34, .slice Ao35 t309.length co35, .slice Ao36 t312.length co36] 30 (0, 0)) (by (with_reducible repeat (first | refine blk_drewN ?_ _ | refine blk_drew ?_ | refine blk_alloc ?_ _)); exact BK315.out) hb); have n12_ := Aside0.mk (below_step (by repeat (first | (with_reducible first | exact HB.out | apply below_alloc | apply pw_below_drewN | apply below_drew1 | refine below_set ?_ GE286.out | refine below_set ?_ GE315.out) | exact HB.out)) hb); clear HO_8; clear HO_11; clear HO_12; clear HO_316001; clear HO_316002; clear HO_316003; clear HO327; clear HO330; clear HO333; clear BK286; clear BK315; clear HB; have HO_8 := n0_; have HO_11 := n1_; have HO_12 := n2_; have HO_316001 := n3_; have HO_316002 := n4_; have HO_316003 := n5_; have HO327 := n6_; have HO330 := n7_; have HO333 := n8_; have HO337 := n9_; have BK286 := n10_; have BK315 := n11_; have HB := n12_; clear n0_ n1_ n2_ n3_ n4_ n5_ n6_ n7_ n8_ n9_ n10_ n11_ n12_; (try clear hb); (try clear hb2); (try clear hk); (try clear hi); (try clear ho0); obtain ⟨Ao66, co66, eo66⟩ := Kd.R_slice HO337.out; subst eo66) | ((with_reducible refine gate_callee (f := 13) rfl ?_); refine goesL_ (some 64) rfl rfl Try.func13 (by kernel_rfl) rfl #[.slice Ao39 t316.length co39, .slice Ao66 t335.length co66] rfl (by (try simp only [List.map_toArray, List.map_cons, List.map_nil]); first | done | rfl | (simp only [List.length_drop, List.length_take]; rfl)) ?_; (with_reducible refine (laws_eqInt64S.calls kj16 _ _ t316 _ _ t335 true _ ?side1 ?side2 ?side3 ?side4 A54.out).mono ?_); (case side1 => repeat (first | exact (Kd.R_reads' HO_11.out).2.2 | (with_reducible refine Kd.C_alloc ?_ _) | (with_reducible refine Kd.C_drewN ?_ _) | (with_reducible refine Kd.C_drew ?_))); (case side2 => exact (Kd.R_reads' HO_11.out).2.1); (case side3 => repeat (first | exact (Kd.R_reads' HO337.out).2.2 | (with_reducible refine Kd.C_alloc ?_ _) | (with_reducible refine Kd.C_drewN ?_ _) | (with_reducible refine Kd.C_drew ?_))); (case side4 => exact (Kd.R_reads' HO337.out).2.1); rintro e w' ⟨rfl, ⟨nd, rfl⟩⟩; refine ⟨_, rfl, ?_⟩; have hnb67 := NB315_286.out; have hnc67 := NB286_315.out; have hcz68_0 : w65.cell? ⟨gb315, 0, none⟩ = some (.int .i64 t305) := (blk_cell BK315.out 0).trans rfl; have hcz68_1 : w65.cell? ⟨gb315, 1, none⟩ = some (.slice Ao34 t306.length co34) := (blk_cell BK315.out 1).trans rfl; have hcz68_2 : w65.cell? ⟨gb315, 2, none⟩ = some (.slice Ao35 t309.length co35) := (blk_cell BK315.out 2).trans rfl; have hcz68_3 : w65.cell? ⟨gb315, 3, none⟩ = some (.slice Ao36 t312.length co36) := (blk_cell BK315.out 3).trans rfl; have hfz68_0 := blk_frozen BK315.out 0; have hfz68_1 := blk_frozen BK315.out 1; have hfz68_2 := blk_frozen BK315.out 2; have hfz68_3 := blk_frozen BK315.out 3) | ((with_reducible refine gate_callee (f := 19) rfl ?_); refine goesL_ (some 68) rfl rfl Try.func19 (by kernel_rfl) rfl #[.agg #[.int .i64 t305, .slice Ao34 t306.length co34, .slice Ao35 t309.length co35, .slice Ao36 t312.length co36], .int .i64 1] rfl (by (try simp only [List.map_toArray, List.map_cons, List.map_nil]); first | done | rfl | (simp only [List.length_drop, List.length_take]; rfl)) ?_; have hS_ := S_hand (Kd.S_drewN HO_316003.out nd); have hR_ := R_typedk (Kd.R_drewN HO_316001.out nd) rfl; have hR2_ := R_typedk (Kd.R_drewN HO_316002.out nd) rfl; have hp_ := hp_rk (Kd.R_drewN HO_316001.out nd) (Kd.R_drewN HO_316002.out nd) (fun k_ hok hok1 e1_ e_ => by first | (simp only [e_, ne_eq, not_true_eq_false, and_false, false_and] at hok; done) | (simp only [e1_, ne_eq, not_true_eq_false, and_false, false_and] at hok1; done) | (simp only [e1_, ne_eq, not_true_eq_false, and_false, false_and] at hok; done) | (simp only [e_, ne_eq, not_true_eq_false, and_false, false_and] at hok1; done)); have hpa_ := hp_of (Kd.S_drewN HO_316003.out nd) (Kd.R_drewN HO_316001.out nd) (fun k_ hok hok1 e_ => by first | (simp only [e_, ne_eq, not_true_eq_false, and_false, false_and] at hok; done) | (simp only [e_, ne_eq, not_true_eq_false, and_false, false_and] at hok1; done)); have hpb_ := hp_of (Kd.S_drewN HO_316003.out nd) (Kd.R_drewN HO_316002.out nd) (fun k_ hok hok1 e_ => by first | (simp only [e_, ne_eq, not_true_eq_false, and_false, false_and] at hok; done) | (simp only [e_, ne_eq, not_true_eq_false, and_false, false_and] at hok1; done)); (with_reducible refine (laws_markProblem.calls kj16 _ _ _ _ _ _ _ _ _ _ 1 t339 _ _ _ w _ (pw_below_drewN HB.out nd) hR_ hR2_ hS_ hp_ hpa_ hpb_ A56.out).mono ?_); rintro e w69 ⟨rfl, hs1_, hs2_, hs0_, hb, hk_⟩; refine ⟨_, rfl, ?_⟩; clear hS_ hR_ hR2_ hp_ hpa_ hpb_; have NIAo36 := HIAo36.out; have NLAo26 := HLAo26.out; have NLAo36 := HLAo36.out; have NLAo63 := HLAo63.out; have n0_ := Aside0.mk (R_kept (Kd.R_drewN HO_8.out nd) rfl hk_ (by intro k_ hok hx hty hP; rcases hP with (⟨⟨ob, hb⟩, -, ht⟩ | ⟨⟨ob, hb⟩, -, ht⟩) | ⟨⟨ob, hb | hb⟩, -, ht⟩; all_goals (skip; (first | omega | (simp only [hx, ne_eq, not_true_eq_false, and_false, false_and] at ob; done) | (simp only [hb, ne_eq, not_true_eq_false, and_false, false_and] at hok; done) | (obtain ⟨q1_, hq1_, c1_, e1_⟩ := hty; obtain ⟨q2_, hq2_, c2_, e2_⟩ := ht; have hq_ := ty_ne e1_ e2_; subst hq_; exact absurd hq2_ ((by decide : ∀ q_, q_ ∈ [2] → q_ ∉ 52 :: k52.E) _ hq1_)) | (obtain ⟨q1_, hq1_, c1_, e1_⟩ := hty; obtain ⟨q2_, hq2_, c2_, e2_⟩ := ht; have hq_ := ty_ne e1_ e2_; subst hq_; exact absurd hq2_ ((by decide : ∀ q_, q_ ∈ [2] → q_ ∉ [50]) _ hq1_)) | (obtain ⟨q1_, hq1_, c1_, e1_⟩ := hty; obtain ⟨q2_, hq2_, c2_, e2_⟩ := ht; have hq_ := ty_ne e1_ e2_; subst hq_; exact absurd hq2_ ((by decide : ∀ q_, q_ ∈ [50] → q_ ∉ 52 :: k52.E) _ hq1_)) | (obtain ⟨q1_, hq1_, c1_, e1_⟩ := hty; obtain ⟨q2_, hq2_, c2_, e2_⟩ := ht; have hq_ := ty_ne e1_ e2_; subst hq_; exact absurd hq2_ ((by decide : ∀ q_, q_ ∈ [50] → q_ ∉ [2]) _ hq1_)))))); have n1_ := Aside0.mk (R_kept (Kd.R_drewN HO_11.out nd) rfl hk_ (by intro k_ hok hx hty hP; rcases hP with (⟨⟨ob, hb⟩, -, ht⟩ | ⟨⟨ob, hb⟩, -, ht⟩) | ⟨⟨ob, hb | hb⟩, -, ht⟩; all_goals (skip; (first | omega | (simp only [hx, ne_eq, not_true_eq_false, and_false, false_and] at ob; done) | (simp only [hb, ne_eq, not_true_eq_false, and_false, false_and] at hok; done) | (obtain ⟨q1_, hq1_, c1_, e1_⟩ := hty; obtain ⟨q2_, hq2_, c2_, e2_⟩ := ht; have hq_ := ty_ne e1_ e2_; subst hq_; exact absurd hq2_ ((by decide : ∀ q_, q_ ∈ [2] → q_ ∉ 52 :: k52.E) _ hq1_)) | (obtain ⟨q1_, hq1_, c1_, e1_⟩ := hty; obtain ⟨q2_, hq2_, c2_, e2_⟩ := ht; have hq_ := ty_ne e1_ e2_; subst hq_; exact absurd hq2_ ((by decide : ∀ q_, q_ ∈ [2] → q_ ∉ [50]) _ hq1_)) | (obtain ⟨q1_, hq1_, c1_, e1_⟩ := hty; obtain ⟨q2_, hq2_, c2_, e2_⟩ := ht; have hq_ := ty_ne e1_ e2_; subst hq_; exact absurd hq2_ ((by decide : ∀ q_, q_ ∈ [50] → q_ ∉ 52 :: k52.E) _ hq1_)) | (obtain ⟨q1_, hq1_, c1_, e1_⟩ := hty; obtain ⟨q2_, hq2_, c2_, e2_⟩ := ht; have hq_ := ty_ne e1_ e2_; subst hq_; exact absurd hq2_ ((by decide : ∀ q_, q_ ∈ [50] → q_ ∉ [2]) _ hq1_)))))); have n2_ := Aside0.mk (R_kept (Kd.R_drewN HO_12.out nd) rfl hk_ (by intro k_ hok hx hty hP; rcases hP with (⟨⟨ob, hb⟩, -, ht⟩ | ⟨⟨ob, hb⟩, -, ht⟩) | ⟨⟨ob, hb | hb⟩, -, ht⟩; all_goals (skip; (first | omega | (simp only [hx, ne_eq, not_true_eq_false, and_false, false_and] at ob; done) | (simp only [hb, ne_eq, not_true_eq_false, and_false, false_and] at hok; done) | (obtain ⟨q1_, hq1_, c1_, e1_⟩ := hty; obtain ⟨q2_, hq2_, c2_, e2_⟩ := ht; have hq_ := ty_ne e1_ e2_; subst hq_; exact absurd hq2_ ((by decide : ∀ q_, q_ ∈ [2] → q_ ∉ 52 :: k52.E) _ hq1_)) | (obtain ⟨q1_, hq1_, c1_, e1_⟩ := hty; obtain ⟨q2_, hq2_, c2_, e2_⟩ := ht; have hq_ := ty_ne e1_ e2_; subst hq_; exact absurd hq2_ ((by decide : ∀ q_, q_ ∈ [2] → q_ ∉ [50]) _ hq1_)) | (obtain ⟨q1_, hq1_, c1_, e1_⟩ := hty; obtain ⟨q2_, hq2_, c2_, e2_⟩ := ht; have hq_ := ty_ne e1_ e2_; subst hq_; exact absurd hq2_ ((by decide : ∀ q_, q_ ∈ [50] → q_ ∉ 52 :: k52.E) _ hq1_)) | (obtain ⟨q1_, hq1_, c1_, e1_⟩ := hty; obtain ⟨q2_, hq2_, c2_, e2_⟩ := ht; have hq_ := ty_ne e1_ e2_; subst hq_; exact absurd hq2_ ((by decide : ∀ q_, q_ ∈ [50] → q_ ∉ [2]) _ hq1_)))))); have n3_ := Aside0.mk (Kd.R_mono hs1_ (fun _ h_ => h_.1.1)); have n4_ := Aside0.mk (Kd.R_mono hs2_ (fun _ h_ => h_.1.1)); have n5_ := Aside0.mk (S_back hs0_); have n6_ := Aside0.mk (R_kept (Kd.R_drewN HO327.out nd) rfl hk_ (by intro k_ hok hx hty hP; rcases hP with (⟨⟨ob, hb⟩, -, ht⟩ | ⟨⟨ob, hb⟩, -, ht⟩) | ⟨⟨ob, hb | hb⟩, -, ht⟩; all_goals (skip; (first | omega | (simp only [hx, ne_eq, not_true_eq_false, and_false, false_and] at ob; done) | (simp only [hb, ne_eq, not_true_eq_false, and_false, false_and] at hok; done) | (obtain ⟨q1_, hq1_, c1_, e1_⟩ := hty; obtain ⟨q2_, hq2_, c2_, e2_⟩ := ht; have hq_ := ty_ne e1_ e2_; subst hq_; exact absurd hq2_ ((by decide : ∀ q_, q_ ∈ [2] → q_ ∉ 52 :: k52.E) _ hq1_)) | (obtain ⟨q1_, hq1_, c1_, e1_⟩ := hty; obtain ⟨q2_, hq2_, c2_, e2_⟩ := ht; have hq_ := ty_ne e1_ e2_; subst hq_; exact absurd hq2_ ((by decide : ∀ q_, q_ ∈ [2] → q_ ∉ [50]) _ hq1_)) | (obtain ⟨q1_, hq1_, c1_, e1_⟩ := hty; obtain ⟨q2_, hq2_, c2_, e2_⟩ := ht; have hq_ := ty_ne e1_ e2_; subst hq_; exact absurd hq2_ ((by decide : ∀ q_, q_ ∈ [50] → q_ ∉ 52 :: k52.E) _ hq1_)) | (obtain ⟨q1_, hq1_, c1_, e1_⟩ := hty; obtain ⟨q2_, hq2_, c2_, e2_⟩ := ht; have hq_ := ty_ne e1_ e2_; subst hq_; exact absurd hq2_ ((by decide : ∀ q_, q_ ∈ [50] → q_ ∉ [2]) _ hq1_)))))); have n7_ := Aside0.mk (R_kept (Kd.R_drewN HO330.out nd) rfl hk_ (by intro k_ hok hx hty hP; rcases hP with (⟨⟨ob, hb⟩, -, ht⟩ | ⟨⟨ob, hb⟩, -, ht⟩) | ⟨⟨ob, hb | hb⟩, -, ht⟩; all_goals (skip; (first | omega | (simp only [hx, ne_eq, not_true_eq_false, and_false, false_and] at ob; done) | (simp only [hb, ne_eq, not_true_eq_false, and_false, false_and] at hok; done) | (obtain ⟨q1_, hq1_, c1_, e1_⟩ := hty; obtain ⟨q2_, hq2_, c2_, e2_⟩ := ht; have hq_ := ty_ne e1_ e2_; subst hq_; exact absurd hq2_ ((by decide : ∀ q_, q_ ∈ [2] → q_ ∉ 52 :: k52.E) _ hq1_)) | (obtain ⟨q1_, hq1_, c1_, e1_⟩ := hty; obtain ⟨q2_, hq2_, c2_, e2_⟩ := ht; have hq_ := ty_ne e1_ e2_; subst hq_; exact absurd hq2_ ((by decide : ∀ q_, q_ ∈ [2] → q_ ∉ [50]) _ hq1_)) | (obtain ⟨q1_, hq1_, c1_, e1_⟩ := hty; obtain ⟨q2_, hq2_, c2_, e2_⟩ := ht; have hq_ := ty_ne e1_ e2_; subst hq_; exact absurd hq2_ ((by decide : ∀ q_, q_ ∈ [50] → q_ ∉ 52 :: k52.E) _ hq1_)) | (obtain ⟨q1_, hq1_, c1_, e1_⟩ := hty; obtain ⟨q2_, hq2_, c2_, e2_⟩ := ht; have hq_ := ty_ne e1_ e2_; subst hq_; exact absurd hq2_ ((by decide : ∀ q_, q_ ∈ [50] → q_ ∉ [2]) _ hq1_)))))); have n8_ := Aside0.mk (S_kept (Kd.S_drewN HO333.out nd) hk_ (by intro k_ hok hx hty hP; rcases hP with (⟨⟨ob, hb⟩, -, ht⟩ | ⟨⟨ob, hb⟩, -, ht⟩) | ⟨⟨ob, hb | hb⟩, -, ht⟩; all_goals (rcases hx with hx | hx); all_goals (first | omega | (simp only [hx, ne_eq, not_true_eq_false, and_false, false_and] at ob; done) | (simp only [hb, ne_eq, not_true_eq_false, and_false, false_and] at hok; done) | (obtain ⟨q1_, hq1_, c1_, e1_⟩ := hty; obtain ⟨q2_, hq2_, c2_, e2_⟩ := ht; have hq_ := ty_ne e1_ e2_; subst hq_; exact absurd hq2_ ((by decide : ∀ q_, q_ ∈ 52 :: k52.E → q_ ∉ [2]) _ hq1_)) | (obtain ⟨q1_, hq1_, c1_, e1_⟩ := hty; obtain ⟨q2_, hq2_, c2_, e2_⟩ := ht; have hq_ := ty_ne e1_ e2_; subst hq_; exact absurd hq2_ ((by decide : ∀ q_, q_ ∈ 52 :: k52.E → q_ ∉ [50]) _ hq1_))))); have n9_ := Aside0.mk (R_kept (Kd.R_drewN HO337.out nd) rfl hk_ (by intro k_ hok hx hty hP; rcases hP with (⟨⟨ob, hb⟩, -, ht⟩ | ⟨⟨ob, hb⟩, -, ht⟩) | ⟨⟨ob, hb | hb⟩, -, ht⟩; all_goals (skip; (first | omega | (simp only [hx, ne_eq, not_true_eq_false, and_false, false_and] at ob; done) | (simp only [hb, ne_eq, not_true_eq_false, and_false, false_and] at hok; done) | (obtain ⟨q1_, hq1_, c1_, e1_⟩ := hty; obtain ⟨q2_, hq2_, c2_, e2_⟩ := ht; have hq_ := ty_ne e1_ e2_; subst hq_; exact absurd hq2_ ((by decide : ∀ q_, q_ ∈ [2] → q_ ∉ 52 :: k52.E) _ hq1_)) | (obtain ⟨q1_, hq1_, c1_, e1_⟩ := hty; obtain ⟨q2_, hq2_, c2_, e2_⟩ := ht; have hq_ := ty_ne e1_ e2_; subst hq_; exact absurd hq2_ ((by decide : ∀ q_, q_ ∈ [2] → q_ ∉ [50]) _ hq1_)) | (obtain ⟨q1_, hq1_, c1_, e1_⟩ := hty; obtain ⟨q2_, hq2_, c2_, e2_⟩ := ht; have hq_ := ty_ne e1_ e2_; subst hq_; exact absurd hq2_ ((by decide : ∀ q_, q_ ∈ [50] → q_ ∉ 52 :: k52.E) _ hq1_)) | (obtain ⟨q1_, hq1_, c1_, e1_⟩ := hty; obtain ⟨q2_, hq2_, c2_, e2_⟩ := ht; have hq_ := ty_ne e1_ e2_; subst hq_; exact absurd hq2_ ((by decide : ∀ q_, q_ ∈ [50] → q_ ∉ [2]) _ hq1_)))))); have n10_ := Aside0.mk (blk_kp (g := gb286) (o := .cells #[.int .i64 a0_0, .slice A0_1 l0_1.length c0_1, .slice A0_2 l0_2.length c0_2, .slice A0_3 l0_3.length c0_3] 25 (0, 0)) (blk_drewN BK286.out nd) hk_ (by intro hP; have hty : ∃ q_, q_ ∈ [25] ∧ ∃ cells_, _ = some (Obj.cells cells_ q_ (0, 0)) := ⟨_, List.mem_singleton.2 rfl, _, blk_drewN BK286.out nd⟩; rcases hP with (⟨-, -, ht⟩ | ⟨-, -, ht⟩) | ⟨-, -, ht⟩; all_goals (first | (obtain ⟨q1_, hq1_, c1_, e1_⟩ := hty; obtain ⟨q2_, hq2_, c2_, e2_⟩ := ht; have hq_ := ty_ne e1_ e2_; subst hq_; exact absurd hq2_ ((by decide : ∀ q_, q_ ∈ [25] → q_ ∉ 52 :: k52.E) _ hq1_)) | (obtain ⟨q1_, hq1_, c1_, e1_⟩ := hty; obtain ⟨q2_, hq2_, c2_, e2_⟩ := ht; have hq_ := ty_ne e1_ e2_; subst hq_; exact absurd hq2_ ((by decide : ∀ q_, q_ ∈ [25] → q_ ∉ [2]) _ hq1_)) | (obtain ⟨q1_, hq1_, c1_, e1_⟩ := hty; obtain ⟨q2_, hq2_, c2_, e2_⟩ := ht; have hq_ := ty_ne e1_ e2_; subst hq_; exact absurd hq2_ ((by decide : ∀ q_, q_ ∈ [25] → q_ ∉ [50]) _ hq1_))))); have n11_ := Aside0.mk (blk_kp (g := gb315) (o := .cells #[.int .i64 t305, .slice Ao34 t306.length co34, .slice Ao35 t309.length co35, .slice Ao36 t312.length co36] 30 (0, 0)) (blk_drewN BK315.out nd) hk_ (by intro hP; have hty : ∃ q_, q_ ∈ [30] ∧ ∃ cells_, _ = some (Obj.cells cells_ q_ (0, 0)) := ⟨_, List.mem_singleton.2 rfl, _, blk_drewN BK315.out nd⟩; rcases hP with (⟨-, -, ht⟩ | ⟨-, -, ht⟩) | ⟨-, -, ht⟩; all_goals (first | (obtain ⟨q1_, hq1_, c1_, e1_⟩ := hty; obtain ⟨q2_, hq2_, c2_, e2_⟩ := ht; have hq_ := ty_ne e1_ e2_; subst hq_; exact absurd hq2_ ((by decide : ∀ q_, q_ ∈ [30] → q_ ∉ 52 :: k52.E) _ hq1_)) | (obtain ⟨q1_, hq1_, c1_, e1_⟩ := hty; obtain ⟨q2_, hq2_, c2_, e2_⟩ := ht; have hq_ := ty_ne e1_ e2_; subst hq_; exact absurd hq2_ ((by decide : ∀ q_, q_ ∈ [30] → q_ ∉ [2]) _ hq1_)) | (obtain ⟨q1_, hq1_, c1_, e1_⟩ := hty; obtain ⟨q2_, hq2_, c2_, e2_⟩ := ht; have hq_ := ty_ne e1_ e2_; subst hq_; exact absurd hq2_ ((by decide : ∀ q_, q_ ∈ [30] → q_ ∉ [50]) _ hq1_))))); have n12_ := Aside0.mk (hb); clear HO_8; clear HO_11; clear HO_12; clear HO_316001; clear HO_316002; clear HO_316003; clear HO327; clear HO330; clear HO333; clear HO337; clear BK286; clear BK315; clear HB; clear NIAo36 NLAo26 NLAo36 NLAo63; have HO_8 := n0_; have HO_11 := n1_; have HO_12 := n2_; have HO_316001 := n3_; have HO_316002 := n4_; have HO_316003 := n5_; have HO327 := n6_; have HO330 := n7_; have HO333 := n8_; have HO337 := n9_; have BK286 := n10_; have BK315 := n11_; have HB := n12_; clear n0_ n1_ n2_ n3_ n4_ n5_ n6_ n7_ n8_ n9_ n10_ n11_ n12_; clear hs0_ hs1_ hs2_ hb hk_) | ((with_reducible refine gate_callee (f := 20) rfl ?_); refine goesL_ (some 71) rfl rfl Try.func20 (by kernel_rfl) rfl #[.slice Ao39 t316.length co39, .int .i64 t339] rfl (by (try simp only [List.map_toArray, List.map_cons, List.map_nil]); first | done | rfl | (simp only [List.length_drop, List.length_take]; rfl)) ?_; (with_reducible refine (laws_markInt64S.calls kj16 (fun k_ => some k_ = (.slice Ao39 t316.length co39 : Value).ownBlock) (.slice Ao39 t316.length co39) t316 t339 t340 t341 w _ ?side1 ?side2 A57.out).mono ?_); (case side1 => repeat (first | (with_reducible first | exact HB.out | apply below_alloc | apply pw_below_drewN | apply below_drew1 | refine below_set ?_ GE286.out | refine below_set ?_ GE315.out) | exact HB.out)); (case side2 => exact Kd.R_tight rfl (by (with_reducible repeat (first | apply Kd.R_alloc | apply Kd.R_drewN | apply Kd.R_drew)); exact HO_11.out)); rintro e w70 ⟨rfl, hy0, hb, hkp⟩; refine ⟨_, rfl, ?_⟩; have n0_ := Aside0.mk (Kd.R_mono (ok' := fun k_ => some k_ ≠ (v320 : Value).ownBlock) (Kd.R_keptB ((Kd.R_apart' HO_8.out (Kd.R_typed HO_11.out) (by first | decide | (simp only [bet_E]; decide)))) hkp (fun k_ hk_ hs_ => (hk_.2) hs_)) (fun k_ hk_ => hk_.1.1)); have n1_ := Aside0.mk (Kd.R_reok rfl hy0 (fun k_ e_ => HO_11.out.1 k_ e_)); have n2_ := Aside0.mk (Kd.R_mono (ok' := fun k_ => some k_ ≠ (v302 : Value).ownBlock) (Kd.R_keptB ((Kd.R_apart' HO_12.out (Kd.R_typed HO_11.out) (by first | decide | (simp only [bet_E]; decide)))) hkp (fun k_ hk_ hs_ => (hk_.2) hs_)) (fun k_ hk_ => hk_.1.1)); have n3_ := Aside0.mk (Kd.R_mono (ok' := fun k_ => some k_ ≠ (.slice Ao39 t316.length co39 : Value).ownBlock ∧ some k_ ≠ (.slice Ao35 t309.length co35 : Value).ownBlock ∧ some k_ ≠ (.slice Ao61 t325.length co61 : Value).ownBlock ∧ some k_ ≠ (.slice Ao62 t328.length co62 : Value).ownBlock ∧ some k_ ≠ (.slice Ao66 t335.length co66 : Value).ownBlock) (Kd.R_keptB (HO_316001.out) hkp (fun k_ hk_ hs_ => (hk_.1.1.1.1) hs_)) (fun k_ hk_ => ⟨hk_.1.1.1.1.1, hk_.1.1.1.1.2, hk_.1.1.1.2, hk_.1.1.2, hk_.1.2⟩)); have n4_ := Aside0.mk (Kd.R_mono (ok' := fun k_ => some k_ ≠ (.slice Ao39 t316.length co39 : Value).ownBlock ∧ some k_ ≠ (.slice Ao34 t306.length co34 : Value).ownBlock ∧ some k_ ≠ (.slice Ao61 t325.length co61 : Value).ownBlock ∧ some k_ ≠ (.slice Ao62 t328.length co62 : Value).ownBlock ∧ some k_ ≠ (.slice Ao66 t335.length co66 : Value).ownBlock) (Kd.R_keptB (HO_316002.out) hkp (fun k_ hk_ hs_ => (hk_.1.1.1.1) hs_)) (fun k_ hk_ => ⟨hk_.1.1.1.1.1, hk_.1.1.1.1.2, hk_.1.1.1.2, hk_.1.1.2, hk_.1.2⟩)); have n5_ := Aside0.mk (Kd.S_mono (ok' := fun k_ => some k_ ≠ (.slice Ao39 t316.length co39 : Value).ownBlock ∧ some k_ ≠ (.slice Ao34 t306.length co34 : Value).ownBlock ∧ some k_ ≠ (.slice Ao35 t309.length co35 : Value).ownBlock ∧ some k_ ≠ (.slice Ao61 t325.length co61 : Value).ownBlock ∧ some k_ ≠ (.slice Ao62 t328.length co62 : Value).ownBlock ∧ some k_ ≠ (.slice Ao63 t331.length co63 : Value).ownBlock ∧ some k_ ≠ (.slice Ao66 t335.length co66 : Value).ownBlock) (Kd.S_keptB (HO_316003.out) hkp (fun k_ hk_ hs_ => (hk_.1.1.1.1.1) hs_)) (fun k_ hk_ => ⟨hk_.1.1.1.1.1.1, hk_.1.1.1.1.1.2.1, hk_.1.1.1.1.1.2.2, hk_.1.1.1.1.2, hk_.1.1.1.2, hk_.1.1.2, hk_.1.2⟩)); have n6_ := Aside0.mk (blk_kept (by (with_reducible repeat (first | refine blk_drewN ?_ _ | refine blk_drew ?_ | refine blk_alloc ?_ _)); exact BK286.out) hkp (fun hs_ => (fun e_ => (Kd.R_ne HO_11.out BK286.out (by first | decide | (simp only [bet_E]; decide))) e_) hs_)); have n7_ := Aside0.mk (blk_kept (by (with_reducible repeat (first | refine blk_drewN ?_ _ | refine blk_drew ?_ | refine blk_alloc ?_ _)); exact BK315.out) hkp (fun hs_ => (fun e_ => (Kd.R_ne HO_11.out BK315.out (by first | decide | (simp only [bet_E]; decide))) e_) hs_)); have n8_ := Aside0.mk (Kd.R_mono (ok' := fun k_ => some k_ ≠ (.slice Ao39 t316.length co39 : Value).ownBlock ∧ some k_ ≠ (.slice Ao34 t306.length co34 : Value).ownBlock ∧ some k_ ≠ (.slice Ao35 t309.length co35 : Value).ownBlock ∧ some k_ ≠ (.slice Ao62 t328.length co62 : Value).ownBlock ∧ some k_ ≠ (.slice Ao66 t335.length co66 : Value).ownBlock) (Kd.R_keptB (HO327.out) hkp (fun k_ hk_ hs_ => (hk_.1.1.1.2) hs_)) (fun k_ hk_ => ⟨hk_.1.1.1.1.2, hk_.1.1.1.2, hk_.1.1.2, hk_.1.1.1.1.1, hk_.1.2⟩)); have n9_ := Aside0.mk (Kd.R_mono (ok' := fun k_ => some k_ ≠ (.slice Ao39 t316.length co39 : Value).ownBlock ∧ some k_ ≠ (.slice Ao34 t306.length co34 : Value).ownBlock ∧ some k_ ≠ (.slice Ao35 t309.length co35 : Value).ownBlock ∧ some k_ ≠ (.slice Ao61 t325.length co61 : Value).ownBlock ∧ some k_ ≠ (.slice Ao66 t335.length co66 : Value).ownBlock) (Kd.R_keptB (HO330.out) hkp (fun k_ hk_ hs_ => (hk_.1.1.1.2) hs_)) (fun k_ hk_ => ⟨hk_.1.1.1.1.2, hk_.1.1.1.2, hk_.1.1.2, hk_.1.1.1.1.1, hk_.1.2⟩)); have n10_ := Aside0.mk (Kd.S_mono (ok' := fun k_ => some k_ ≠ (.slice Ao39 t316.length co39 : Value).ownBlock ∧ some k_ ≠ (.slice Ao34 t306.length co34 : Value).ownBlock ∧ some k_ ≠ (.slice Ao35 t309.length co35 : Value).ownBlock ∧ some k_ ≠ (.slice Ao36 t312.length co36 : Value).ownBlock ∧ some k_ ≠ (.slice Ao61 t325.length co61 : Value).ownBlock ∧ some k_ ≠ (.slice Ao62 t328.length co62 : Value).ownBlock ∧ some k_ ≠ (.slice Ao66 t335.length co66 : Value).ownBlock) (Kd.S_keptB (HO333.out) hkp (fun k_ hk_ hs_ => (hk_.1.1.1.1.2) hs_)) (fun k_ hk_ => ⟨hk_.1.1.1.1.1.2, hk_.1.1.1.1.2, hk_.1.1.1.2, hk_.1.1.2, hk_.1.1.1.1.1.1.1, hk_.1.1.1.1.1.1.2, hk_.1.2⟩)); have n11_ := Aside0.mk (Kd.R_mono (ok' := fun k_ => some k_ ≠ (.slice Ao39 t316.length co39 : Value).ownBlock ∧ some k_ ≠ (.slice Ao34 t306.length co34 : Value).ownBlock ∧ some k_ ≠ (.slice Ao35 t309.length co35 : Value).ownBlock ∧ some k_ ≠ (.slice Ao61 t325.length co61 : Value).ownBlock ∧ some k_ ≠ (.slice Ao62 t328.length co62 : Value).ownBlock) (Kd.R_keptB (HO337.out) hkp (fun k_ hk_ hs_ => (hk_.1.1.1.1.2) hs_)) (fun k_ hk_ => ⟨hk_.1.1.1.1.1.2, hk_.1.1.1.1.2, hk_.1.1.1.2, hk_.1.1.2, hk_.1.2⟩)); have n12_ := Aside0.mk (hb); clear HO_8; clear HO_11; clear HO_12; clear HO_316001; clear HO_316002; clear HO_316003; clear BK286; clear BK315; clear HO327; clear HO330; clear HO333; clear HO337; clear HB; have HO_8 := n0_; have HO_11 := n1_; have HO_12 := n2_; have HO_316001 := n3_; have HO_316002 := n4_; have HO_316003 := n5_; have BK286 := n6_; have BK315 := n7_; have HO327 := n8_; have HO330 := n9_; have HO333 := n10_; have HO337 := n11_; have HB := n12_; clear n0_ n1_ n2_ n3_ n4_ n5_ n6_ n7_ n8_ n9_ n10_ n11_ n12_; (try clear hb); (try clear hkp); (try clear hy0)))
                (try simp only [Act.put, List.setIfInBounds_toArray, List.set_cons_zero, List.set_cons_succ])
                go_cut [84] (fun v84 wc => ∃ (kq : Nat) (x84_57 : Bool), v84 = .bool x84_57 ∧ Aside0 (laws_FnExactDescend.j1 kq l1 a2 t301 t304 t319 x84_57 a0_0 l0_1 l0_2 l0_3 = some true) ∧ Aside0 (kq ≤ kj16) ∧ Aside0 (Kd.R k50 50 wc w.heap.size (fun k_ => some k_ ≠ (v320 : Value).ownBlock) v302 t301) ∧ Aside0 (Kd.R k50 50 wc w.heap.size (fun k_ => some k_ ≠ (v302 : Value).ownBlock) v320 t319) ∧ Aside0 (Kd.R (Kd.int .i64) 2 wc w.heap.size (fun k_ => some k_ ≠ ((.slice Ao35 t309.length co35) : Value).ownBlock) (.slice Ao34 t306.length co34) m306) ∧ Aside0 (Kd.R (Kd.int .i64) 2 wc w.heap.size (fun k_ => some k_ ≠ ((.slice Ao34 t306.length co34) : Value).ownBlock) (.slice Ao35 t309.length co35) m309) ∧ Aside0 (Kd.S (bet k52 loAo36 hiAo36) 52 wc w.heap.size (fun k_ => some k_ ≠ ((.slice Ao34 t306.length co34) : Value).ownBlock ∧ some k_ ≠ ((.slice Ao35 t309.length co35) : Value).ownBlock) (.slice Ao36 t312.length co36) m312) ∧ Aside0 (wc.heap[gb286]? = some (.cells #[.int .i64 a0_0, (.slice A0_1 l0_1.length c0_1), (.slice A0_2 l0_2.length c0_2), (.slice A0_3 l0_3.length c0_3)] 25 (0, 0))) ∧ Aside0 (wc.heap[gb315]? = some (.cells #[.int .i64 t305, (.slice Ao34 t306.length co34), (.slice Ao35 t309.length co35), (.slice Ao36 t312.length co36)] 30 (0, 0))) ∧ Aside0 (Below w.heap.size w wc))
                case first =>
                  have H := HC58.out
                  clear HC58
                  by_cases c71 : t340 < 0
                  · rw [if_pos c71] at H
                    have c71b0 : decide (t340 < 0) = true := decide_eq_true c71
                    clear c71
                    (first | rw [c71b0] | (simp only [i64_w, i32_w]; rw [c71b0]) | skip)
                    have H' := Aside0.mk H
                    clear H
                    go_wp2
                    go_meet
                    case rel => exact ⟨_, (true), (by first | rfl | (simp; done) | (simp [*]; done)), H', ⟨by have := HJ16.out; first | omega | exact Nat.le_refl _⟩, ⟨by (with_reducible repeat (first | apply Kd.R_alloc | apply Kd.R_drewN | apply Kd.R_drew)); exact HO_8.out⟩, ⟨by (with_reducible repeat (first | apply Kd.R_alloc | apply Kd.R_drewN | apply Kd.R_drew)); exact HO_12.out⟩, ⟨by (with_reducible repeat (first | apply Kd.R_alloc | apply Kd.R_drewN | apply Kd.R_drew)); exact Kd.R_mono HO_316001.out (fun _ hk => hk.2.1)⟩, ⟨by (with_reducible repeat (first | apply Kd.R_alloc | apply Kd.R_drewN | apply Kd.R_drew)); exact Kd.R_mono HO_316002.out (fun _ hk => hk.2.1)⟩, ⟨by (with_reducible repeat (first | apply Kd.S_alloc | apply Kd.S_drewN | apply Kd.S_drew)); exact Kd.S_mono HO_316003.out (fun _ hk => ⟨hk.2.1, hk.2.2.1⟩)⟩, ⟨by (with_reducible repeat (first | refine blk_drewN ?_ _ | refine blk_drew ?_ | refine blk_alloc ?_ _)); exact BK286.out⟩, ⟨by (with_reducible repeat (first | refine blk_drewN ?_ _ | refine blk_drew ?_ | refine blk_alloc ?_ _)); exact BK315.out⟩, ⟨by repeat (first | (with_reducible first | exact HB.out | apply below_alloc | apply pw_below_drewN | apply below_drew1 | refine below_set ?_ GE286.out | refine below_set ?_ GE315.out) | exact HB.out)⟩⟩
                  · rw [if_neg c71] at H
                    have c71b0 : decide (t340 < 0) = false := decide_eq_false c71
                    clear c71
                    (first | rw [c71b0] | (simp only [i64_w, i32_w]; rw [c71b0]) | skip)
                    replace H := Option.bind_eq_some_iff.mp H
                    obtain ⟨t342, A720, H⟩ := H
                    replace H : (if t342 = true then (laws_FnExactDescend.j1 kj16 l1 a2 t301 t304 t319 (t322 != t304) a0_0 l0_1 l0_2 l0_3) else (laws_FnExactDescend.j1 kj16 l1 a2 t301 t304 t319 true a0_0 l0_1 l0_2 l0_3)) = some true := H
                    have A72 := Aside0.mk A720
                    clear A720
                    by_cases c73 : t342 = true
                    · subst c73
                      have H1 : (laws_FnExactDescend.j1 kj16 l1 a2 t301 t304 t319 (t322 != t304) a0_0 l0_1 l0_2 l0_3) = some true := by rw [if_pos rfl] at H; exact H
                      clear H
                      have H := H1
                      clear H1
                      have H' := Aside0.mk H
                      clear H
                      obtain ⟨Ao74, co74, eo74⟩ := Kd.R_slice HO_12.out
                      subst eo74
                      obtain ⟨Ao75, co75, eo75⟩ := Kd.R_slice HO_8.out
                      subst eo75
                      go_wp2_with (first | (go_at_call 18; (with_reducible refine (laws_eqMoveS.calls kj16 _ _ t319 _ _ t301 true _ ?side1 ?side2 ?side3 ?side4 A72.out).mono ?_); (case side1 => repeat (first | exact (Kd.R_reads' HO_12.out).2.2 | (with_reducible refine Kd.C_alloc ?_ _) | (with_reducible refine Kd.C_drewN ?_ _) | (with_reducible refine Kd.C_drew ?_))); (case side2 => exact (Kd.R_reads' HO_12.out).2.1); (case side3 => repeat (first | exact (Kd.R_reads' HO_8.out).2.2 | (with_reducible refine Kd.C_alloc ?_ _) | (with_reducible refine Kd.C_drewN ?_ _) | (with_reducible refine Kd.C_drew ?_))); (case side4 => exact (Kd.R_reads' HO_8.out).2.1); rintro e w76 ⟨rfl, hb⟩; have n0_ := Aside0.mk (Kd.R_below (by (with_reducible repeat (first | apply Kd.R_alloc | apply Kd.R_drewN | apply Kd.R_drew)); exact HO_8.out) hb); have n1_ := Aside0.mk (Kd.R_below (by (with_reducible repeat (first | apply Kd.R_alloc | apply Kd.R_drewN | apply Kd.R_drew)); exact HO_11.out) hb); have n2_ := Aside0.mk (Kd.R_below (by (with_reducible repeat (first | apply Kd.R_alloc | apply Kd.R_drewN | apply Kd.R_drew)); exact HO_12.out) hb); have n3_ := Aside0.mk (Kd.R_below (by (with_reducible repeat (first | apply Kd.R_alloc | apply Kd.R_drewN | apply Kd.R_drew)); exact HO_316001.out) hb); have n4_ := Aside0.mk (Kd.R_below (by (with_reducible repeat (first | apply Kd.R_alloc | apply Kd.R_drewN | apply Kd.R_drew)); exact HO_316002.out) hb); have n5_ := Aside0.mk (Kd.S_below (by (with_reducible repeat (first | apply Kd.S_alloc | apply Kd.S_drewN | apply Kd.S_drew)); exact HO_316003.out) hb); have n6_ := Aside0.mk (Kd.R_below (by (with_reducible repeat (first | apply Kd.R_alloc | apply Kd.R_drewN | apply Kd.R_drew)); exact HO327.out) hb); have n7_ := Aside0.mk (Kd.R_below (by (with_reducible repeat (first | apply Kd.R_alloc | apply Kd.R_drewN | apply Kd.R_drew)); exact HO330.out) hb); have n8_ := Aside0.mk (Kd.S_below (by (with_reducible repeat (first | apply Kd.S_alloc | apply Kd.S_drewN | apply Kd.S_drew)); exact HO333.out) hb); have n9_ := Aside0.mk (Kd.R_below (by (with_reducible repeat (first | apply Kd.R_alloc | apply Kd.R_drewN | apply Kd.R_drew)); exact HO337.out) hb); have n10_ := Aside0.mk (blk_below (g := gb286) (o := .cells #[.int .i64 a0_0, .slice A0_1 l0_1.length c0_1, .slice A0_2 l0_2.length c0_2, .slice A0_3 l0_3.length c0_3] 25 (0, 0)) (by (with_reducible repeat (first | refine blk_drewN ?_ _ | refine blk_drew ?_ | refine blk_alloc ?_ _)); exact BK286.out) hb); have n11_ := Aside0.mk (blk_below (g := gb315) (o := .cells #[.int .i64 t305, .slice Ao34 t306.length co34, .slice Ao35 t309.length co35, .slice Ao36 t312.length co36] 30 (0, 0)) (by (with_reducible repeat (first | refine blk_drewN ?_ _ | refine blk_drew ?_ | refine blk_alloc ?_ _)); exact BK315.out) hb); have n12_ := Aside0.mk (below_step (by repeat (first | (with_reducible first | exact HB.out | apply below_alloc | apply pw_below_drewN | apply below_drew1 | refine below_set ?_ GE286.out | refine below_set ?_ GE315.out) | exact HB.out)) hb); clear HO_8; clear HO_11; clear HO_12; clear HO_316001; clear HO_316002; clear HO_316003; clear HO327; clear HO330; clear HO333; clear HO337; clear BK286; clear BK315; clear HB; have HO_8 := n0_; have HO_11 := n1_; have HO_12 := n2_; have HO_316001 := n3_; have HO_316002 := n4_; have HO_316003 := n5_; have HO327 := n6_; have HO330 := n7_; have HO333 := n8_; have HO337 := n9_; have BK286 := n10_; have BK315 := n11_; have HB := n12_; clear n0_ n1_ n2_ n3_ n4_ n5_ n6_ n7_ n8_ n9_ n10_ n11_ n12_; (try clear hb); (try clear hb2); (try clear hk); (try clear hi)))
                      go_meet
                      case rel => exact ⟨_, ((t322 != t304)), (by first | rfl | (simp; done) | (simp [*]; done)), H', ⟨by have := HJ16.out; first | omega | exact Nat.le_refl _⟩, ⟨by (with_reducible repeat (first | apply Kd.R_alloc | apply Kd.R_drewN | apply Kd.R_drew)); exact HO_8.out⟩, ⟨by (with_reducible repeat (first | apply Kd.R_alloc | apply Kd.R_drewN | apply Kd.R_drew)); exact HO_12.out⟩, ⟨by (with_reducible repeat (first | apply Kd.R_alloc | apply Kd.R_drewN | apply Kd.R_drew)); exact Kd.R_mono HO_316001.out (fun _ hk => hk.2.1)⟩, ⟨by (with_reducible repeat (first | apply Kd.R_alloc | apply Kd.R_drewN | apply Kd.R_drew)); exact Kd.R_mono HO_316002.out (fun _ hk => hk.2.1)⟩, ⟨by (with_reducible repeat (first | apply Kd.S_alloc | apply Kd.S_drewN | apply Kd.S_drew)); exact Kd.S_mono HO_316003.out (fun _ hk => ⟨hk.2.1, hk.2.2.1⟩)⟩, ⟨by (with_reducible repeat (first | refine blk_drewN ?_ _ | refine blk_drew ?_ | refine blk_alloc ?_ _)); exact BK286.out⟩, ⟨by (with_reducible repeat (first | refine blk_drewN ?_ _ | refine blk_drew ?_ | refine blk_alloc ?_ _)); exact BK315.out⟩, ⟨by repeat (first | (with_reducible first | exact HB.out | apply below_alloc | apply pw_below_drewN | apply below_drew1 | refine below_set ?_ GE286.out | refine below_set ?_ GE315.out) | exact HB.out)⟩⟩
                    · replace c73 := Bool.eq_false_iff.mpr c73
                      subst c73
                      have H1 : (laws_FnExactDescend.j1 kj16 l1 a2 t301 t304 t319 true a0_0 l0_1 l0_2 l0_3) = some true := by rw [if_neg (show ¬ (false = true) by decide)] at H; exact H
                      clear H
                      have H := H1
                      clear H1
                      have H' := Aside0.mk H
                      clear H
                      obtain ⟨Ao77, co77, eo77⟩ := Kd.R_slice HO_12.out
                      subst eo77
                      obtain ⟨Ao78, co78, eo78⟩ := Kd.R_slice HO_8.out
                      subst eo78
                      go_wp2_with (first | (go_at_call 18; (with_reducible refine (laws_eqMoveS.calls kj16 _ _ t319 _ _ t301 false _ ?side1 ?side2 ?side3 ?side4 A72.out).mono ?_); (case side1 => repeat (first | exact (Kd.R_reads' HO_12.out).2.2 | (with_reducible refine Kd.C_alloc ?_ _) | (with_reducible refine Kd.C_drewN ?_ _) | (with_reducible refine Kd.C_drew ?_))); (case side2 => exact (Kd.R_reads' HO_12.out).2.1); (case side3 => repeat (first | exact (Kd.R_reads' HO_8.out).2.2 | (with_reducible refine Kd.C_alloc ?_ _) | (with_reducible refine Kd.C_drewN ?_ _) | (with_reducible refine Kd.C_drew ?_))); (case side4 => exact (Kd.R_reads' HO_8.out).2.1); rintro e w79 ⟨rfl, hb⟩; have n0_ := Aside0.mk (Kd.R_below (by (with_reducible repeat (first | apply Kd.R_alloc | apply Kd.R_drewN | apply Kd.R_drew)); exact HO_8.out) hb); have n1_ := Aside0.mk (Kd.R_below (by (with_reducible repeat (first | apply Kd.R_alloc | apply Kd.R_drewN | apply Kd.R_drew)); exact HO_11.out) hb); have n2_ := Aside0.mk (Kd.R_below (by (with_reducible repeat (first | apply Kd.R_alloc | apply Kd.R_drewN | apply Kd.R_drew)); exact HO_12.out) hb); have n3_ := Aside0.mk (Kd.R_below (by (with_reducible repeat (first | apply Kd.R_alloc | apply Kd.R_drewN | apply Kd.R_drew)); exact HO_316001.out) hb); have n4_ := Aside0.mk (Kd.R_below (by (with_reducible repeat (first | apply Kd.R_alloc | apply Kd.R_drewN | apply Kd.R_drew)); exact HO_316002.out) hb); have n5_ := Aside0.mk (Kd.S_below (by (with_reducible repeat (first | apply Kd.S_alloc | apply Kd.S_drewN | apply Kd.S_drew)); exact HO_316003.out) hb); have n6_ := Aside0.mk (Kd.R_below (by (with_reducible repeat (first | apply Kd.R_alloc | apply Kd.R_drewN | apply Kd.R_drew)); exact HO327.out) hb); have n7_ := Aside0.mk (Kd.R_below (by (with_reducible repeat (first | apply Kd.R_alloc | apply Kd.R_drewN | apply Kd.R_drew)); exact HO330.out) hb); have n8_ := Aside0.mk (Kd.S_below (by (with_reducible repeat (first | apply Kd.S_alloc | apply Kd.S_drewN | apply Kd.S_drew)); exact HO333.out) hb); have n9_ := Aside0.mk (Kd.R_below (by (with_reducible repeat (first | apply Kd.R_alloc | apply Kd.R_drewN | apply Kd.R_drew)); exact HO337.out) hb); have n10_ := Aside0.mk (blk_below (g := gb286) (o := .cells #[.int .i64 a0_0, .slice A0_1 l0_1.length c0_1, .slice A0_2 l0_2.length c0_2, .slice A0_3 l0_3.length c0_3] 25 (0, 0)) (by (with_reducible repeat (first | refine blk_drewN ?_ _ | refine blk_drew ?_ | refine blk_alloc ?_ _)); exact BK286.out) hb); have n11_ := Aside0.mk (blk_below (g := gb315) (o := .cells #[.int .i64 t305, .slice Ao34 t306.length co34, .slice Ao35 t309.length co35, .slice Ao36 t312.length co36] 30 (0, 0)) (by (with_reducible repeat (first | refine blk_drewN ?_ _ | refine blk_drew ?_ | refine blk_alloc ?_ _)); exact BK315.out) hb); have n12_ := Aside0.mk (below_step (by repeat (first | (with_reducible first | exact HB.out | apply below_alloc | apply pw_below_drewN | apply below_drew1 | refine below_set ?_ GE286.out | refine below_set ?_ GE315.out) | exact HB.out)) hb); clear HO_8; clear HO_11; clear HO_12; clear HO_316001; clear HO_316002; clear HO_316003; clear HO327; clear HO330; clear HO333; clear HO337; clear BK286; clear BK315; clear HB; have HO_8 := n0_; have HO_11 := n1_; have HO_12 := n2_; have HO_316001 := n3_; have HO_316002 := n4_; have HO_316003 := n5_; have HO327 := n6_; have HO330 := n7_; have HO333 := n8_; have HO337 := n9_; have BK286 := n10_; have BK315 := n11_; have HB := n12_; clear n0_ n1_ n2_ n3_ n4_ n5_ n6_ n7_ n8_ n9_ n10_ n11_ n12_; (try clear hb); (try clear hb2); (try clear hk); (try clear hi)))
                      go_meet
                      case rel => exact ⟨_, (true), (by first | rfl | (simp; done) | (simp [*]; done)), H', ⟨by have := HJ16.out; first | omega | exact Nat.le_refl _⟩, ⟨by (with_reducible repeat (first | apply Kd.R_alloc | apply Kd.R_drewN | apply Kd.R_drew)); exact HO_8.out⟩, ⟨by (with_reducible repeat (first | apply Kd.R_alloc | apply Kd.R_drewN | apply Kd.R_drew)); exact HO_12.out⟩, ⟨by (with_reducible repeat (first | apply Kd.R_alloc | apply Kd.R_drewN | apply Kd.R_drew)); exact Kd.R_mono HO_316001.out (fun _ hk => hk.2.1)⟩, ⟨by (with_reducible repeat (first | apply Kd.R_alloc | apply Kd.R_drewN | apply Kd.R_drew)); exact Kd.R_mono HO_316002.out (fun _ hk => hk.2.1)⟩, ⟨by (with_reducible repeat (first | apply Kd.S_alloc | apply Kd.S_drewN | apply Kd.S_drew)); exact Kd.S_mono HO_316003.out (fun _ hk => ⟨hk.2.1, hk.2.2.1⟩)⟩, ⟨by (with_reducible repeat (first | refine blk_drewN ?_ _ | refine blk_drew ?_ | refine blk_alloc ?_ _)); exact BK286.out⟩, ⟨by (with_reducible repeat (first | refine blk_drewN ?_ _ | refine blk_drew ?_ | refine blk_alloc ?_ _)); exact BK315.out⟩, ⟨by repeat (first | (with_reducible first | exact HB.out | apply below_alloc | apply pw_below_drewN | apply below_drew1 | refine below_set ?_ GE286.out | refine below_set ?_ GE315.out) | exact HB.out)⟩⟩
                case rest =>
                  clear HC58
                  try clear c1
                  try clear c2
                  try clear p2
                  try clear c3
                  try clear c4
                  try clear c4b0
                  try clear c4b1
                  try clear c5
                  try clear c6
                  try clear c7
                  try clear c7b0
                  try clear c9
                  try clear c10
                  try clear c12
                  try clear c13
                  try clear c16
                  try clear c17
                  try clear c18
                  try clear c19
                  try clear c20
                  try clear c32
                  try clear c42
                  try clear c49
                  try clear c52
                  try clear c55
                  try clear c67
                  try clear c71
                  try clear c71b0
                  try clear c73
                  try clear hcz19_0
                  try clear hcz19_1
                  try clear hcz19_2
                  try clear hcz19_3
                  try clear hcz21_0
                  try clear hcz21_1
                  try clear hcz21_2
                  try clear hcz21_3
                  try clear hcz29_0
                  try clear hcz29_1
                  try clear hcz29_2
                  try clear hcz29_3
                  try clear hcz33_0
                  try clear hcz33_1
                  try clear hcz33_2
                  try clear hcz33_3
                  try clear hcz38_0
                  try clear hcz38_1
                  try clear hcz38_2
                  try clear hcz38_3
                  try clear hcz68_0
                  try clear hcz68_1
                  try clear hcz68_2
                  try clear hcz68_3
                  try clear hcz9_0
                  try clear hcz9_1
                  try clear hcz9_2
                  try clear hcz9_3
                  try clear hfz19_0
                  try clear hfz19_1
                  try clear hfz19_2
                  try clear hfz19_3
                  try clear hfz21_0
                  try clear hfz21_1
                  try clear hfz21_2
                  try clear hfz21_3
                  try clear hfz29_0
                  try clear hfz29_1
                  try clear hfz29_2
                  try clear hfz29_3
                  try clear hfz33_0
                  try clear hfz33_1
                  try clear hfz33_2
                  try clear hfz33_3
                  try clear hfz38_0
                  try clear hfz38_1
                  try clear hfz38_2
                  try clear hfz38_3
                  try clear hfz68_0
                  try clear hfz68_1
                  try clear hfz68_2
                  try clear hfz68_3
                  try clear hfz9_0
                  try clear hfz9_1
                  try clear hfz9_2
                  try clear hfz9_3
                  try clear p2
                  obtain ⟨kq, x84_57, rfl, HA, HJ57, HO_8, HO_12, HO_316001, HO_316002, HO_316003, BK286, BK315, HB⟩ := hcut
                  cases kq with
                  | zero => exact absurd HA.out (by simp [laws_FnExactDescend.j1])
                  | succ kj57 =>
                    have H := HA.out
                    clear HA
                    simp only [laws_FnExactDescend.j1] at H
                    by_cases c80 : x84_57 = true
                    · subst c80
                      have H1 : (some false) = some true := by rw [if_pos rfl] at H; exact H
                      clear H
                      have H := H1
                      clear H1
                      exact absurd H (by simp)
                    · replace c80 := Bool.eq_false_iff.mpr c80
                      subst c80
                      have H1 : ((laws_markMoveS.f kj57 t319 1).bind fun bt343 => ((laws_heldMoveS.f kj57 bt343.2 1).bind fun t345 => (if t345 < 0 then (some false) else (if t345 = bt343.1 then ((laws_toProblem.f kj57 a0_0 l0_1 l0_2 l0_3).bind fun bt346 => ((laws_toInt64S.f kj57 l1).bind fun t356 => ((impl_Descend.f kj57 bt346.1 bt346.2.1 bt346.2.2.1 bt346.2.2.2 t356 a2).bind fun bt359 => ((laws_eqMoveS.f kj57 bt359.1 t301).bind fun t363 => (if t363 = true then (laws_FnExactDescend.j2 kj57 bt343.2 bt343.1 (bt359.2 != t304)) else (laws_FnExactDescend.j2 kj57 bt343.2 bt343.1 true)))))) else (some false))))) = some true := by rw [if_neg (show ¬ (false = true) by decide)] at H; exact H
                      clear H
                      have H := H1
                      clear H1
                      replace H := Option.bind_eq_some_iff.mp H
                      obtain ⟨⟨t343, t344⟩, A810, H⟩ := H
                      replace H : ((laws_heldMoveS.f kj57 t344 1).bind fun t345 => (if t345 < 0 then (some false) else (if t345 = t343 then ((laws_toProblem.f kj57 a0_0 l0_1 l0_2 l0_3).bind fun bt346 => ((laws_toInt64S.f kj57 l1).bind fun t356 => ((impl_Descend.f kj57 bt346.1 bt346.2.1 bt346.2.2.1 bt346.2.2.2 t356 a2).bind fun bt359 => ((laws_eqMoveS.f kj57 bt359.1 t301).bind fun t363 => (if t363 = true then (laws_FnExactDescend.j2 kj57 t344 t343 (bt359.2 != t304)) else (laws_FnExactDescend.j2 kj57 t344 t343 true)))))) else (some false)))) = some true := H
                      have A81 := Aside0.mk A810
                      clear A810
                      replace H := Option.bind_eq_some_iff.mp H
                      obtain ⟨t345, A820, H⟩ := H
                      replace H : (if t345 < 0 then (some false) else (if t345 = t343 then ((laws_toProblem.f kj57 a0_0 l0_1 l0_2 l0_3).bind fun bt346 => ((laws_toInt64S.f kj57 l1).bind fun t356 => ((impl_Descend.f kj57 bt346.1 bt346.2.1 bt346.2.2.1 bt346.2.2.2 t356 a2).bind fun bt359 => ((laws_eqMoveS.f kj57 bt359.1 t301).bind fun t363 => (if t363 = true then (laws_FnExactDescend.j2 kj57 t344 t343 (bt359.2 != t304)) else (laws_FnExactDescend.j2 kj57 t344 t343 true)))))) else (some false))) = some true := H
                      have A82 := Aside0.mk A820
                      clear A820
                      by_cases c83 : t345 < 0
                      · rw [if_pos c83] at H
                        have c83b0 : decide (t345 < 0) = true := decide_eq_true c83
                        clear c83
                        exact absurd H (by simp)
                      · rw [if_neg c83] at H
                        have c83b0 : decide (t345 < 0) = false := decide_eq_false c83
                        clear c83
                        by_cases c84 : t345 = t343
                        · rw [if_pos c84] at H
                          have c84b0 : (t345 == t343) = true := beq_iff_eq.mpr c84
                          have c84b1 : (t345 != t343) = false := bne_eq_false_iff_eq.mpr c84
                          clear c84
                          replace H := Option.bind_eq_some_iff.mp H
                          obtain ⟨⟨t346, t347, t350, t353⟩, A850, H⟩ := H
                          replace H : ((laws_toInt64S.f kj57 l1).bind fun t356 => ((impl_Descend.f kj57 t346 t347 t350 t353 t356 a2).bind fun bt359 => ((laws_eqMoveS.f kj57 bt359.1 t301).bind fun t363 => (if t363 = true then (laws_FnExactDescend.j2 kj57 t344 t343 (bt359.2 != t304)) else (laws_FnExactDescend.j2 kj57 t344 t343 true))))) = some true := H
                          have A85 := Aside0.mk A850
                          clear A850
                          replace H := Option.bind_eq_some_iff.mp H
                          obtain ⟨t356, A860, H⟩ := H
                          replace H : ((impl_Descend.f kj57 t346 t347 t350 t353 t356 a2).bind fun bt359 => ((laws_eqMoveS.f kj57 bt359.1 t301).bind fun t363 => (if t363 = true then (laws_FnExactDescend.j2 kj57 t344 t343 (bt359.2 != t304)) else (laws_FnExactDescend.j2 kj57 t344 t343 true)))) = some true := H
                          have A86 := Aside0.mk A860
                          clear A860
                          replace H := Option.bind_eq_some_iff.mp H
                          obtain ⟨⟨t359, t362⟩, A870, H⟩ := H
                          replace H : ((laws_eqMoveS.f kj57 t359 t301).bind fun t363 => (if t363 = true then (laws_FnExactDescend.j2 kj57 t344 t343 (t362 != t304)) else (laws_FnExactDescend.j2 kj57 t344 t343 true))) = some true := H
                          have A87 := Aside0.mk A870
                          clear A870
                          have HC88 := Aside0.mk H
                          clear H
                          obtain ⟨Ao89, co89, eo89⟩ := Kd.R_slice HO_12.out
                          subst eo89
                          go_upto_region 31 with (first | ((with_reducible refine gate_callee (f := 21) rfl ?_); refine goesL_ (some 87) rfl rfl Try.func21 (by kernel_rfl) rfl #[.slice Ao89 t319.length co89, .int .i64 1] rfl (by (try simp only [List.map_toArray, List.map_cons, List.map_nil]); first | done | rfl | (simp only [List.length_drop, List.length_take]; rfl)) ?_; (with_reducible refine (laws_markMoveS.calls kj57 (fun k_ => some k_ = (.slice Ao89 t319.length co89 : Value).ownBlock) (.slice Ao89 t319.length co89) t319 1 t343 t344 w _ ?side1 ?side2 A81.out).mono ?_); (case side1 => repeat (first | (with_reducible first | exact HB.out | apply below_alloc | apply pw_below_drewN | apply below_drew1 | refine below_set ?_ GE286.out | refine below_set ?_ GE315.out) | exact HB.out)); (case side2 => exact Kd.R_tight rfl (by (with_reducible repeat (first | apply Kd.R_alloc | apply Kd.R_drewN | apply Kd.R_drew)); exact HO_12.out)); rintro e w90 ⟨rfl, hy0, hb, hkp⟩; refine ⟨_, rfl, ?_⟩; have n0_ := Aside0.mk (Kd.R_mono (ok' := fun k_ => some k_ ≠ (.slice Ao89 t319.length co89 : Value).ownBlock) (Kd.R_keptB (HO_8.out) hkp (fun k_ hk_ hs_ => (hk_) hs_)) (fun k_ hk_ => hk_.1)); have n1_ := Aside0.mk (Kd.R_reok rfl hy0 (fun k_ e_ => HO_12.out.1 k_ e_)); have n2_ := Aside0.mk (Kd.R_mono (ok' := fun k_ => some k_ ≠ (.slice Ao35 t309.length co35 : Value).ownBlock) (Kd.R_keptB ((Kd.R_apart' HO_316001.out (Kd.R_typed HO_12.out) (by first | decide | (simp only [bet_E]; decide)))) hkp (fun k_ hk_ hs_ => (hk_.2) hs_)) (fun k_ hk_ => hk_.1.1)); have n3_ := Aside0.mk (Kd.R_mono (ok' := fun k_ => some k_ ≠ (.slice Ao34 t306.length co34 : Value).ownBlock) (Kd.R_keptB ((Kd.R_apart' HO_316002.out (Kd.R_typed HO_12.out) (by first | decide | (simp only [bet_E]; decide)))) hkp (fun k_ hk_ hs_ => (hk_.2) hs_)) (fun k_ hk_ => hk_.1.1)); have n4_ := Aside0.mk (Kd.S_mono (ok' := fun k_ => some k_ ≠ (.slice Ao34 t306.length co34 : Value).ownBlock ∧ some k_ ≠ (.slice Ao35 t309.length co35 : Value).ownBlock) (Kd.S_keptB ((Kd.S_apart' HO_316003.out (Kd.R_typed HO_12.out) (by first | decide | (simp only [bet_E]; decide)))) hkp (fun k_ hk_ hs_ => (hk_.2) hs_)) (fun k_ hk_ => ⟨hk_.1.1.1, hk_.1.1.2⟩)); have n5_ := Aside0.mk (blk_kept (by (with_reducible repeat (first | refine blk_drewN ?_ _ | refine blk_drew ?_ | refine blk_alloc ?_ _)); exact BK286.out) hkp (fun hs_ => (fun e_ => (Kd.R_ne HO_12.out BK286.out (by first | decide | (simp only [bet_E]; decide))) e_) hs_)); have n6_ := Aside0.mk (blk_kept (by (with_reducible repeat (first | refine blk_drewN ?_ _ | refine blk_drew ?_ | refine blk_alloc ?_ _)); exact BK315.out) hkp (fun hs_ => (fun e_ => (Kd.R_ne HO_12.out BK315.out (by first | decide | (simp only [bet_E]; decide))) e_) hs_)); have n7_ := Aside0.mk (hb); clear HO_8; clear HO_12; clear HO_316001; clear HO_316002; clear HO_316003; clear BK286; clear BK315; clear HB; have HO_8 := n0_; have HO_12 := n1_; have HO_316001 := n2_; have HO_316002 := n3_; have HO_316003 := n4_; have BK286 := n5_; have BK315 := n6_; have HB := n7_; clear n0_ n1_ n2_ n3_ n4_ n5_ n6_ n7_; (try clear hb); (try clear hkp); (try clear hy0)) | ((with_reducible refine gate_callee (f := 22) rfl ?_); refine goesL_ (some 90) rfl rfl Try.func22 (by kernel_rfl) rfl #[.slice Ao89 t344.length co89, .int .i64 1] rfl (by (try simp only [List.map_toArray, List.map_cons, List.map_nil]); first | done | (rw [show t344.length = t319.length from (Kd.R_reads' HO_12.out).1.symm] <;> rfl) | rfl | (simp only [List.length_drop, List.length_take]; rfl)) ?_; (with_reducible refine (laws_heldMoveS.calls kj57 _ _ t344 1 t345 _ ?side1 ?side2 A82.out).mono ?_); (case side1 => repeat (first | exact (Kd.R_reads' HO_12.out).2.2 | (with_reducible refine Kd.C_alloc ?_ _) | (with_reducible refine Kd.C_drewN ?_ _) | (with_reducible refine Kd.C_drew ?_))); (case side2 => rw [show t344.length = t319.length from (Kd.R_reads' HO_12.out).1.symm]; exact (Kd.R_reads' HO_12.out).2.1); rintro e w' ⟨rfl, ⟨nd, rfl⟩⟩; refine ⟨_, rfl, ?_⟩; have hnb91 := NB286_315.out; have hnc91 := NB315_286.out; have hcz92_0 : w90.cell? ⟨gb286, 0, none⟩ = some (.int .i64 a0_0) := (blk_cell BK286.out 0).trans rfl; have hcz92_1 : w90.cell? ⟨gb286, 1, none⟩ = some (.slice A0_1 l0_1.length c0_1) := (blk_cell BK286.out 1).trans rfl; have hcz92_2 : w90.cell? ⟨gb286, 2, none⟩ = some (.slice A0_2 l0_2.length c0_2) := (blk_cell BK286.out 2).trans rfl; have hcz92_3 : w90.cell? ⟨gb286, 3, none⟩ = some (.slice A0_3 l0_3.length c0_3) := (blk_cell BK286.out 3).trans rfl; have hfz92_0 := blk_frozen BK286.out 0; have hfz92_1 := blk_frozen BK286.out 1; have hfz92_2 := blk_frozen BK286.out 2; have hfz92_3 := blk_frozen BK286.out 3) | ((with_reducible refine gate_callee (f := 9) rfl ?_); refine goesL_ (some 98) rfl rfl Try.func9 (by kernel_rfl) rfl #[.agg #[.int .i64 a0_0, .slice A0_1 l0_1.length c0_1, .slice A0_2 l0_2.length c0_2, .slice A0_3 l0_3.length c0_3]] rfl (by (try simp only [List.map_toArray, List.map_cons, List.map_nil]); first | done | rfl | (simp only [List.length_drop, List.length_take]; rfl)) ?_; (with_reducible refine (laws_toProblem.calls kj57 a0_0 _ _ l0_1 _ _ l0_2 _ _ l0_3 t346 t347 t350 t353 _ ?side1 ?side2 ?side3 ?side4 ?side5 ?side6 A85.out).mono ?_); (case side1 => repeat (first | exact (Kd.C_below HR0_1.out (by repeat (first | (with_reducible first | exact HB.out | apply below_alloc | apply pw_below_drewN | apply below_drew1 | refine below_set ?_ GE286.out | refine below_set ?_ GE315.out) | exact HB.out))) | (with_reducible refine Kd.C_alloc ?_ _) | (with_reducible refine Kd.C_drewN ?_ _) | (with_reducible refine Kd.C_drew ?_))); (case side2 => exact HC0_1.out); (case side3 => repeat (first | exact (Kd.C_below HR0_2.out (by repeat (first | (with_reducible first | exact HB.out | apply below_alloc | apply pw_below_drewN | apply below_drew1 | refine below_set ?_ GE286.out | refine below_set ?_ GE315.out) | exact HB.out))) | (with_reducible refine Kd.C_alloc ?_ _) | (with_reducible refine Kd.C_drewN ?_ _) | (with_reducible refine Kd.C_drew ?_))); (case side4 => exact HC0_2.out); (case side5 => repeat (first | exact (Kd.C_below HR0_3.out (by repeat (first | (with_reducible first | exact HB.out | apply below_alloc | apply pw_below_drewN | apply below_drew1 | refine below_set ?_ GE286.out | refine below_set ?_ GE315.out) | exact HB.out))) | (with_reducible refine Kd.C_alloc ?_ _) | (with_reducible refine Kd.C_drewN ?_ _) | (with_reducible refine Kd.C_drew ?_))); (case side6 => exact HC0_3.out); rintro e w93 ⟨v348, v351, v354, rfl, ho0, ho1, ho2, hb⟩; refine ⟨_, rfl, ?_⟩; obtain ⟨loAo97, hiAo97, hl_, hh_, ho2⟩ := S_inV (Q := fun n_ => gb286 < n_ ∧ gb315 < n_) ho2 ⟨(blk_lt (g := gb286) (o := .cells #[.int .i64 a0_0, .slice A0_1 l0_1.length c0_1, .slice A0_2 l0_2.length c0_2, .slice A0_3 l0_3.length c0_3] 25 (0, 0)) (by (with_reducible repeat (first | refine blk_drewN ?_ _ | refine blk_drew ?_ | refine blk_alloc ?_ _)); exact BK286.out)), (blk_lt (g := gb315) (o := .cells #[.int .i64 t305, .slice Ao34 t306.length co34, .slice Ao35 t309.length co35, .slice Ao36 t312.length co36] 30 (0, 0)) (by (with_reducible repeat (first | refine blk_drewN ?_ _ | refine blk_drew ?_ | refine blk_alloc ?_ _)); exact BK315.out))⟩; have HLAo97 := Aside0.mk (show gb286 < loAo97 ∧ gb315 < loAo97 from hl_); have HHAo97 := Aside0.mk hh_; clear hl_ hh_; have n0_ := Aside0.mk (Kd.R_below (by (with_reducible repeat (first | apply Kd.R_alloc | apply Kd.R_drewN | apply Kd.R_drew)); exact HO_8.out) hb); have n1_ := Aside0.mk (Kd.R_below (by (with_reducible repeat (first | apply Kd.R_alloc | apply Kd.R_drewN | apply Kd.R_drew)); exact HO_12.out) hb); have n2_ := Aside0.mk (Kd.R_mono (Kd.R_told (Kd.R_told (Kd.R_old (by (with_reducible repeat (first | apply Kd.R_alloc | apply Kd.R_drewN | apply Kd.R_drew)); exact HO_316001.out) hb) (Kd.R_base ho0)) (Kd.R_base ho1)) (fun _ h_ => h_.1)); have n3_ := Aside0.mk (Kd.R_mono (Kd.R_told (Kd.R_told (Kd.R_old (by (with_reducible repeat (first | apply Kd.R_alloc | apply Kd.R_drewN | apply Kd.R_drew)); exact HO_316002.out) hb) (Kd.R_base ho0)) (Kd.R_base ho1)) (fun _ h_ => h_.1)); have n4_ := Aside0.mk (Kd.S_mono (Kd.S_told (Kd.S_told (Kd.S_told (Kd.S_old (by (with_reducible repeat (first | apply Kd.S_alloc | apply Kd.S_drewN | apply Kd.S_drew)); exact HO_316003.out) hb) (Kd.R_base ho0)) (Kd.R_base ho1)) (Kd.S_base ho2)) (fun _ h_ => h_.1)); have n5_ := Aside0.mk (Kd.R_lower (Kd.R_new' (Kd.R_new' ho0 (Kd.R_lt (by (with_reducible repeat (first | apply Kd.R_alloc | apply Kd.R_drewN | apply Kd.R_drew)); exact HO_316001.out))) (Kd.R_lt (by (with_reducible repeat (first | apply Kd.R_alloc | apply Kd.R_drewN | apply Kd.R_drew)); exact HO_316002.out))) (below_size (by repeat (first | (with_reducible first | exact HB.out | apply below_alloc | apply pw_below_drewN | apply below_drew1 | refine below_set ?_ GE286.out | refine below_set ?_ GE315.out) | exact HB.out)))); have n6_ := Aside0.mk (Kd.R_lower (Kd.R_new' (Kd.R_new' ho1 (Kd.R_lt (by (with_reducible repeat (first | apply Kd.R_alloc | apply Kd.R_drewN | apply Kd.R_drew)); exact HO_316001.out))) (Kd.R_lt (by (with_reducible repeat (first | apply Kd.R_alloc | apply Kd.R_drewN | apply Kd.R_drew)); exact HO_316002.out))) (below_size (by repeat (first | (with_reducible first | exact HB.out | apply below_alloc | apply pw_below_drewN | apply below_drew1 | refine below_set ?_ GE286.out | refine below_set ?_ GE315.out) | exact HB.out)))); have n7_ := Aside0.mk (Kd.S_lower (Kd.S_new' (Kd.S_new' (Kd.S_new' ho2 (Kd.R_lt (by (with_reducible repeat (first | apply Kd.R_alloc | apply Kd.R_drewN | apply Kd.R_drew)); exact HO_316001.out))) (Kd.R_lt (by (with_reducible repeat (first | apply Kd.R_alloc | apply Kd.R_drewN | apply Kd.R_drew)); exact HO_316002.out))) (Kd.S_lt (by (with_reducible repeat (first | apply Kd.S_alloc | apply Kd.S_drewN | apply Kd.S_drew)); exact HO_316003.out))) (below_size (by repeat (first | (with_reducible first | exact HB.out | apply below_alloc | apply pw_below_drewN | apply below_drew1 | refine below_set ?_ GE286.out | refine below_set ?_ GE315.out) | exact HB.out)))); have n8_ := Aside0.mk (blk_below (g := gb286) (o := .cells #[.int .i64 a0_0, .slice A0_1 l0_1.length c0_1, .slice A0_2 l0_2.length c0_2, .slice A0_3 l0_3.length c0_3] 25 (0, 0)) (by (with_reducible repeat (first | refine blk_drewN ?_ _ | refine blk_drew ?_ | refine blk_alloc ?_ _)); exact BK286.out) hb); have n9_ := Aside0.mk (blk_below (g := gb315) (o := .cells #[.int .i64 t305, .slice Ao34 t306.length co34, .slice Ao35 t309.length co35, .slice Ao36 t312.length co36] 30 (0, 0)) (by (with_reducible repeat (first | refine blk_drewN ?_ _ | refine blk_drew ?_ | refine blk_alloc ?_ _)); exact BK315.out) hb); have n10_ := Aside0.mk (below_step (by repeat (first | (with_reducible first | exact HB.out | apply below_alloc | apply pw_below_drewN | apply below_drew1 | refine below_set ?_ GE286.out | refine below_set ?_ GE315.out) | exact HB.out)) hb); clear HO_8; clear HO_12; clear HO_316001; clear HO_316002; clear HO_316003; clear BK286; clear BK315; clear HB; have HO_8 := n0_; have HO_12 := n1_; have HO_316001 := n2_; have HO_316002 := n3_; have HO_316003 := n4_; have HO349 := n5_; have HO352 := n6_; have HO355 := n7_; have BK286 := n8_; have BK315 := n9_; have HB := n10_; clear n0_ n1_ n2_ n3_ n4_ n5_ n6_ n7_ n8_ n9_ n10_; (try clear hb); (try clear hb2); (try clear hk); (try clear hi); (try clear ho0); (try clear ho1); (try clear ho2)) | ((with_reducible refine gate_callee (f := 10) rfl ?_); refine goesL_ (some 100) rfl rfl Try.func10 (by kernel_rfl) rfl #[.slice A1 l1.length c1] rfl (by (try simp only [List.map_toArray, List.map_cons, List.map_nil]); first | done | rfl | (simp only [List.length_drop, List.length_take]; rfl)) ?_; (with_reducible refine (laws_toInt64S.calls kj57 _ _ l1 t356 _ ?side1 ?side2 A86.out).mono ?_); (case side1 => repeat (first | exact (Kd.C_below HR1.out HB.out) | (with_reducible refine Kd.C_alloc ?_ _) | (with_reducible refine Kd.C_drewN ?_ _) | (with_reducible refine Kd.C_drew ?_))); (case side2 => exact HC1.out); rintro e w94 ⟨v357, rfl, ho0, hb⟩; refine ⟨_, rfl, ?_⟩; have n0_ := Aside0.mk (Kd.R_below (by (with_reducible repeat (first | apply Kd.R_alloc | apply Kd.R_drewN | apply Kd.R_drew)); exact HO_8.out) hb); have n1_ := Aside0.mk (Kd.R_below (by (with_reducible repeat (first | apply Kd.R_alloc | apply Kd.R_drewN | apply Kd.R_drew)); exact HO_12.out) hb); have n2_ := Aside0.mk (Kd.R_elder' (by (with_reducible repeat (first | apply Kd.R_alloc | apply Kd.R_drewN | apply Kd.R_drew)); exact HO_316001.out) (Kd.R_base ho0) hb); have n3_ := Aside0.mk (Kd.R_elder' (by (with_reducible repeat (first | apply Kd.R_alloc | apply Kd.R_drewN | apply Kd.R_drew)); exact HO_316002.out) (Kd.R_base ho0) hb); have n4_ := Aside0.mk (Kd.S_elder' (by (with_reducible repeat (first | apply Kd.S_alloc | apply Kd.S_drewN | apply Kd.S_drew)); exact HO_316003.out) (Kd.R_base ho0) hb); have n5_ := Aside0.mk (Kd.R_elder' (by (with_reducible repeat (first | apply Kd.R_alloc | apply Kd.R_drewN | apply Kd.R_drew)); exact HO349.out) (Kd.R_base ho0) hb); have n6_ := Aside0.mk (Kd.R_elder' (by (with_reducible repeat (first | apply Kd.R_alloc | apply Kd.R_drewN | apply Kd.R_drew)); exact HO352.out) (Kd.R_base ho0) hb); have n7_ := Aside0.mk (Kd.S_elder' (by (with_reducible repeat (first | apply Kd.S_alloc | apply Kd.S_drewN | apply Kd.S_drew)); exact HO355.out) (Kd.R_base ho0) hb); have n8_ := Aside0.mk (Kd.R_lower (Kd.R_new' (Kd.R_new' (Kd.R_new' (Kd.R_new' ho0 (Kd.R_lt (by (with_reducible repeat (first | apply Kd.R_alloc | apply Kd.R_drewN | apply Kd.R_drew)); exact HO_316001.out))) (Kd.R_lt (by (with_reducible repeat (first | apply Kd.R_alloc | apply Kd.R_drewN | apply Kd.R_drew)); exact HO_316002.out))) (Kd.R_lt (by (with_reducible repeat (first | apply Kd.R_alloc | apply Kd.R_drewN | apply Kd.R_drew)); exact HO349.out))) (Kd.R_lt (by (with_reducible repeat (first | apply Kd.R_alloc | apply Kd.R_drewN | apply Kd.R_drew)); exact HO352.out))) (below_size (by repeat (first | (with_reducible first | exact HB.out | apply below_alloc | apply pw_below_drewN | apply below_drew1 | refine below_set ?_ GE286.out | refine below_set ?_ GE315.out) | exact HB.out)))); have n9_ := Aside0.mk (blk_below (g := gb286) (o := .cells #[.int .i64 a0_0, .slice A0_1 l0_1.length c0_1, .slice A0_2 l0_2.length c0_2, .slice A0_3 l0_3.length c0_3] 25 (0, 0)) (by (with_reducible repeat (first | refine blk_drewN ?_ _ | refine blk_drew ?_ | refine blk_alloc ?_ _)); exact BK286.out) hb); have n10_ := Aside0.mk (blk_below (g := gb315) (o := .cells #[.int .i64 t305, .slice Ao34 t306.length co34, .slice Ao35 t309.length co35, .slice Ao36 t312.length co36] 30 (0, 0)) (by (with_reducible repeat (first | refine blk_drewN ?_ _ | refine blk_drew ?_ | refine blk_alloc ?_ _)); exact BK315.out) hb); have n11_ := Aside0.mk (below_step (by repeat (first | (with_reducible first | exact HB.out | apply below_alloc | apply pw_below_drewN | apply below_drew1 | refine below_set ?_ GE286.out | refine below_set ?_ GE315.out) | exact HB.out)) hb); clear HO_8; clear HO_12; clear HO_316001; clear HO_316002; clear HO_316003; clear HO349; clear HO352; clear HO355; clear BK286; clear BK315; clear HB; have HO_8 := n0_; have HO_12 := n1_; have HO_316001 := n2_; have HO_316002 := n3_; have HO_316003 := n4_; have HO349 := n5_; have HO352 := n6_; have HO355 := n7_; have HO358 := n8_; have BK286 := n9_; have BK315 := n10_; have HB := n11_; clear n0_ n1_ n2_ n3_ n4_ n5_ n6_ n7_ n8_ n9_ n10_ n11_; (try clear hb); (try clear hb2); (try clear hk); (try clear hi); (try clear ho0); obtain ⟨Ao95, co95, eo95⟩ := Kd.R_slice HO349.out; subst eo95; obtain ⟨Ao96, co96, eo96⟩ := Kd.R_slice HO352.out; subst eo96; obtain ⟨Ao97, co97, eo97⟩ := Kd.S_slice HO355.out; subst eo97; obtain ⟨Ao98, co98, eo98⟩ := Kd.R_slice HO358.out; subst eo98) | ((with_reducible refine gate_callee (f := 17) rfl ?_); refine goesL_ (some 102) rfl rfl Try.func17 (by kernel_rfl) rfl #[.agg #[.int .i64 t346, .slice Ao95 t347.length co95, .slice Ao96 t350.length co96, .slice Ao97 t353.length co97], .slice Ao98 t356.length co98, .int .i64 a2] rfl (by (try simp only [List.map_toArray, List.map_cons, List.map_nil]); first | done | rfl | (simp only [List.length_drop, List.length_take]; rfl)) ?_; (with_reducible refine (impl_Descend.calls kj57 t346 _ _ t347 _ _ t350 _ _ t353 _ _ t356 a2 t359 t362 _ ?side1 ?side2 ?side3 ?side4 ?side5 ?side6 ?side7 ?side8 A87.out).mono ?_); (case side1 => repeat (first | exact (Kd.R_reads' HO349.out).2.2 | (with_reducible refine Kd.C_alloc ?_ _) | (with_reducible refine Kd.C_drewN ?_ _) | (with_reducible refine Kd.C_drew ?_))); (case side2 => exact (Kd.R_reads' HO349.out).2.1); (case side3 => repeat (first | exact (Kd.R_reads' HO352.out).2.2 | (with_reducible refine Kd.C_alloc ?_ _) | (with_reducible refine Kd.C_drewN ?_ _) | (with_reducible refine Kd.C_drew ?_))); (case side4 => exact (Kd.R_reads' HO352.out).2.1); (case side5 => repeat (first | exact (S_readsB HO355.out).2.2 | (with_reducible refine Kd.C_alloc ?_ _) | (with_reducible refine Kd.C_drewN ?_ _) | (with_reducible refine Kd.C_drew ?_))); (case side6 => exact (S_readsB HO355.out).2.1); (case side7 => repeat (first | exact (Kd.R_reads' HO358.out).2.2 | (with_reducible refine Kd.C_alloc ?_ _) | (with_reducible refine Kd.C_drewN ?_ _) | (with_reducible refine Kd.C_drew ?_))); (case side8 => exact (Kd.R_reads' HO358.out).2.1); rintro e w99 ⟨v360, rfl, ho0, hb⟩; refine ⟨_, rfl, ?_⟩; have n0_ := Aside0.mk (Kd.R_elder' (by (with_reducible repeat (first | apply Kd.R_alloc | apply Kd.R_drewN | apply Kd.R_drew)); exact HO_8.out) (Kd.R_base ho0) hb); have n1_ := Aside0.mk (Kd.R_elder' (by (with_reducible repeat (first | apply Kd.R_alloc | apply Kd.R_drewN | apply Kd.R_drew)); exact HO_12.out) (Kd.R_base ho0) hb); have n2_ := Aside0.mk (Kd.R_below (by (with_reducible repeat (first | apply Kd.R_alloc | apply Kd.R_drewN | apply Kd.R_drew)); exact HO_316001.out) hb); have n3_ := Aside0.mk (Kd.R_below (by (with_reducible repeat (first | apply Kd.R_alloc | apply Kd.R_drewN | apply Kd.R_drew)); exact HO_316002.out) hb); have n4_ := Aside0.mk (Kd.S_below (by (with_reducible repeat (first | apply Kd.S_alloc | apply Kd.S_drewN | apply Kd.S_drew)); exact HO_316003.out) hb); have n5_ := Aside0.mk (Kd.R_below (by (with_reducible repeat (first | apply Kd.R_alloc | apply Kd.R_drewN | apply Kd.R_drew)); exact HO349.out) hb); have n6_ := Aside0.mk (Kd.R_below (by (with_reducible repeat (first | apply Kd.R_alloc | apply Kd.R_drewN | apply Kd.R_drew)); exact HO352.out) hb); have n7_ := Aside0.mk (Kd.S_below (by (with_reducible repeat (first | apply Kd.S_alloc | apply Kd.S_drewN | apply Kd.S_drew)); exact HO355.out) hb); have n8_ := Aside0.mk (Kd.R_below (by (with_reducible repeat (first | apply Kd.R_alloc | apply Kd.R_drewN | apply Kd.R_drew)); exact HO358.out) hb); have n9_ := Aside0.mk (Kd.R_lower (Kd.R_new' (Kd.R_new' ho0 (Kd.R_lt (by (with_reducible repeat (first | apply Kd.R_alloc | apply Kd.R_drewN | apply Kd.R_drew)); exact HO_8.out))) (Kd.R_lt (by (with_reducible repeat (first | apply Kd.R_alloc | apply Kd.R_drewN | apply Kd.R_drew)); exact HO_12.out))) (below_size (by repeat (first | (with_reducible first | exact HB.out | apply below_alloc | apply pw_below_drewN | apply below_drew1 | refine below_set ?_ GE286.out | refine below_set ?_ GE315.out) | exact HB.out)))); have n10_ := Aside0.mk (blk_below (g := gb286) (o := .cells #[.int .i64 a0_0, .slice A0_1 l0_1.length c0_1, .slice A0_2 l0_2.length c0_2, .slice A0_3 l0_3.length c0_3] 25 (0, 0)) (by (with_reducible repeat (first | refine blk_drewN ?_ _ | refine blk_drew ?_ | refine blk_alloc ?_ _)); exact BK286.out) hb); have n11_ := Aside0.mk (blk_below (g := gb315) (o := .cells #[.int .i64 t305, .slice Ao34 t306.length co34, .slice Ao35 t309.length co35, .slice Ao36 t312.length co36] 30 (0, 0)) (by (with_reducible repeat (first | refine blk_drewN ?_ _ | refine blk_drew ?_ | refine blk_alloc ?_ _)); exact BK315.out) hb); have n12_ := Aside0.mk (below_step (by repeat (first | (with_reducible first | exact HB.out | apply below_alloc | apply pw_below_drewN | apply below_drew1 | refine below_set ?_ GE286.out | refine below_set ?_ GE315.out) | exact HB.out)) hb); clear HO_8; clear HO_12; clear HO_316001; clear HO_316002; clear HO_316003; clear HO349; clear HO352; clear HO355; clear HO358; clear BK286; clear BK315; clear HB; have HO_8 := n0_; have HO_12 := n1_; have HO_316001 := n2_; have HO_316002 := n3_; have HO_316003 := n4_; have HO349 := n5_; have HO352 := n6_; have HO355 := n7_; have HO358 := n8_; have HO361 := n9_; have BK286 := n10_; have BK315 := n11_; have HB := n12_; clear n0_ n1_ n2_ n3_ n4_ n5_ n6_ n7_ n8_ n9_ n10_ n11_ n12_; (try clear hb); (try clear hb2); (try clear hk); (try clear hi); (try clear ho0)))
                          (try simp only [Act.put, List.setIfInBounds_toArray, List.set_cons_zero, List.set_cons_succ])
                          go_cut [113] (fun v113 wc => ∃ (kq : Nat) (x113_87 : Bool), v113 = .bool x113_87 ∧ Aside0 (laws_FnExactDescend.j2 kq t344 t343 x113_87 = some true) ∧ Aside0 (kq ≤ kj57) ∧ Aside0 (Kd.R k50 50 wc w.heap.size (fun _ => True) (.slice Ao89 t319.length co89) t344) ∧ Aside0 (Kd.R (Kd.int .i64) 2 wc w.heap.size (fun k_ => some k_ ≠ ((.slice Ao35 t309.length co35) : Value).ownBlock) (.slice Ao34 t306.length co34) m306) ∧ Aside0 (Kd.R (Kd.int .i64) 2 wc w.heap.size (fun k_ => some k_ ≠ ((.slice Ao34 t306.length co34) : Value).ownBlock) (.slice Ao35 t309.length co35) m309) ∧ Aside0 (Kd.S (bet k52 loAo36 hiAo36) 52 wc w.heap.size (fun k_ => some k_ ≠ ((.slice Ao34 t306.length co34) : Value).ownBlock ∧ some k_ ≠ ((.slice Ao35 t309.length co35) : Value).ownBlock) (.slice Ao36 t312.length co36) m312) ∧ Aside0 (wc.heap[gb286]? = some (.cells #[.int .i64 a0_0, (.slice A0_1 l0_1.length c0_1), (.slice A0_2 l0_2.length c0_2), (.slice A0_3 l0_3.length c0_3)] 25 (0, 0))) ∧ Aside0 (wc.heap[gb315]? = some (.cells #[.int .i64 t305, (.slice Ao34 t306.length co34), (.slice Ao35 t309.length co35), (.slice Ao36 t312.length co36)] 30 (0, 0))) ∧ Aside0 (Below w.heap.size w wc))
                          case first =>
                            have H := HC88.out
                            clear HC88
                            replace H := Option.bind_eq_some_iff.mp H
                            obtain ⟨t363, A1000, H⟩ := H
                            replace H : (if t363 = true then (laws_FnExactDescend.j2 kj57 t344 t343 (t362 != t304)) else (laws_FnExactDescend.j2 kj57 t344 t343 true)) = some true := H
                            have A100 := Aside0.mk A1000
                            clear A1000
                            by_cases c101 : t363 = true
                            · subst c101
                              have H1 : (laws_FnExactDescend.j2 kj57 t344 t343 (t362 != t304)) = some true := by rw [if_pos rfl] at H; exact H
                              clear H
                              have H := H1
                              clear H1
                              have H' := Aside0.mk H
                              clear H
                              obtain ⟨Ao102, co102, eo102⟩ := Kd.R_slice HO361.out
                              subst eo102
                              obtain ⟨Ao103, co103, eo103⟩ := Kd.R_slice HO_8.out
                              subst eo103
                              go_wp2_with (first | ((with_reducible refine gate_callee (f := 18) rfl ?_); refine goesL_ (some 107) rfl rfl Try.func18 (by kernel_rfl) rfl #[.slice Ao102 t359.length co102, .slice Ao103 t301.length co103] rfl (by (try simp only [List.map_toArray, List.map_cons, List.map_nil]); first | done | rfl | (simp only [List.length_drop, List.length_take]; rfl)) ?_; (with_reducible refine (laws_eqMoveS.calls kj57 _ _ t359 _ _ t301 true _ ?side1 ?side2 ?side3 ?side4 A100.out).mono ?_); (case side1 => repeat (first | exact (Kd.R_reads' HO361.out).2.2 | (with_reducible refine Kd.C_alloc ?_ _) | (with_reducible refine Kd.C_drewN ?_ _) | (with_reducible refine Kd.C_drew ?_))); (case side2 => exact (Kd.R_reads' HO361.out).2.1); (case side3 => repeat (first | exact (Kd.R_reads' HO_8.out).2.2 | (with_reducible refine Kd.C_alloc ?_ _) | (with_reducible refine Kd.C_drewN ?_ _) | (with_reducible refine Kd.C_drew ?_))); (case side4 => exact (Kd.R_reads' HO_8.out).2.1); rintro e w104 ⟨rfl, hb⟩; refine ⟨_, rfl, ?_⟩; have n0_ := Aside0.mk (Kd.R_below (by (with_reducible repeat (first | apply Kd.R_alloc | apply Kd.R_drewN | apply Kd.R_drew)); exact HO_8.out) hb); have n1_ := Aside0.mk (Kd.R_below (by (with_reducible repeat (first | apply Kd.R_alloc | apply Kd.R_drewN | apply Kd.R_drew)); exact HO_12.out) hb); have n2_ := Aside0.mk (Kd.R_below (by (with_reducible repeat (first | apply Kd.R_alloc | apply Kd.R_drewN | apply Kd.R_drew)); exact HO_316001.out) hb); have n3_ := Aside0.mk (Kd.R_below (by (with_reducible repeat (first | apply Kd.R_alloc | apply Kd.R_drewN | apply Kd.R_drew)); exact HO_316002.out) hb); have n4_ := Aside0.mk (Kd.S_below (by (with_reducible repeat (first | apply Kd.S_alloc | apply Kd.S_drewN | apply Kd.S_drew)); exact HO_316003.out) hb); have n5_ := Aside0.mk (Kd.R_below (by (with_reducible repeat (first | apply Kd.R_alloc | apply Kd.R_drewN | apply Kd.R_drew)); exact HO349.out) hb); have n6_ := Aside0.mk (Kd.R_below (by (with_reducible repeat (first | apply Kd.R_alloc | apply Kd.R_drewN | apply Kd.R_drew)); exact HO352.out) hb); have n7_ := Aside0.mk (Kd.S_below (by (with_reducible repeat (first | apply Kd.S_alloc | apply Kd.S_drewN | apply Kd.S_drew)); exact HO355.out) hb); have n8_ := Aside0.mk (Kd.R_below (by (with_reducible repeat (first | apply Kd.R_alloc | apply Kd.R_drewN | apply Kd.R_drew)); exact HO358.out) hb); have n9_ := Aside0.mk (Kd.R_below (by (with_reducible repeat (first | apply Kd.R_alloc | apply Kd.R_drewN | apply Kd.R_drew)); exact HO361.out) hb); have n10_ := Aside0.mk (blk_below (g := gb286) (o := .cells #[.int .i64 a0_0, .slice A0_1 l0_1.length c0_1, .slice A0_2 l0_2.length c0_2, .slice A0_3 l0_3.length c0_3] 25 (0, 0)) (by (with_reducible repeat (first | refine blk_drewN ?_ _ | refine blk_drew ?_ | refine blk_alloc ?_ _)); exact BK286.out) hb); have n11_ := Aside0.mk (blk_below (g := gb315) (o := .cells #[.int .i64 t305, .slice Ao34 t306.length co34, .slice Ao35 t309.length co35, .slice Ao36 t312.length co36] 30 (0, 0)) (by (with_reducible repeat (first | refine blk_drewN ?_ _ | refine blk_drew ?_ | refine blk_alloc ?_ _)); exact BK315.out) hb); have n12_ := Aside0.mk (below_step (by repeat (first | (with_reducible first | exact HB.out | apply below_alloc | apply pw_below_drewN | apply below_drew1 | refine below_set ?_ GE286.out | refine below_set ?_ GE315.out) | exact HB.out)) hb); clear HO_8; clear HO_12; clear HO_316001; clear HO_316002; clear HO_316003; clear HO349; clear HO352; clear HO355; clear HO358; clear HO361; clear BK286; clear BK315; clear HB; have HO_8 := n0_; have HO_12 := n1_; have HO_316001 := n2_; have HO_316002 := n3_; have HO_316003 := n4_; have HO349 := n5_; have HO352 := n6_; have HO355 := n7_; have HO358 := n8_; have HO361 := n9_; have BK286 := n10_; have BK315 := n11_; have HB := n12_; clear n0_ n1_ n2_ n3_ n4_ n5_ n6_ n7_ n8_ n9_ n10_ n11_ n12_; (try clear hb); (try clear hb2); (try clear hk); (try clear hi)))
                              go_meet
                              case rel => exact ⟨_, ((t362 != t304)), (by first | rfl | (simp; done) | (simp [*]; done)), H', ⟨by have := HJ16.out; have := HJ57.out; first | omega | exact Nat.le_refl _⟩, ⟨by (with_reducible repeat (first | apply Kd.R_alloc | apply Kd.R_drewN | apply Kd.R_drew)); exact Kd.R_mono HO_12.out (fun _ hk => trivial)⟩, ⟨by (with_reducible repeat (first | apply Kd.R_alloc | apply Kd.R_drewN | apply Kd.R_drew)); exact Kd.R_mono HO_316001.out (fun _ hk => hk.1.1.1)⟩, ⟨by (with_reducible repeat (first | apply Kd.R_alloc | apply Kd.R_drewN | apply Kd.R_drew)); exact Kd.R_mono HO_316002.out (fun _ hk => hk.1.1.1)⟩, ⟨by (with_reducible repeat (first | apply Kd.S_alloc | apply Kd.S_drewN | apply Kd.S_drew)); exact Kd.S_mono HO_316003.out (fun _ hk => ⟨hk.1.1.1.1.1, hk.1.1.1.1.2⟩)⟩, ⟨by (with_reducible repeat (first | refine blk_drewN ?_ _ | refine blk_drew ?_ | refine blk_alloc ?_ _)); exact BK286.out⟩, ⟨by (with_reducible repeat (first | refine blk_drewN ?_ _ | refine blk_drew ?_ | refine blk_alloc ?_ _)); exact BK315.out⟩, ⟨by repeat (first | (with_reducible first | exact HB.out | apply below_alloc | apply pw_below_drewN | apply below_drew1 | refine below_set ?_ GE286.out | refine below_set ?_ GE315.out) | exact HB.out)⟩⟩
                            · replace c101 := Bool.eq_false_iff.mpr c101
                              subst c101
                              have H1 : (laws_FnExactDescend.j2 kj57 t344 t343 true) = some true := by rw [if_neg (show ¬ (false = true) by decide)] at H; exact H
                              clear H
                              have H := H1
                              clear H1
                              have H' := Aside0.mk H
                              clear H
                              obtain ⟨Ao105, co105, eo105⟩ := Kd.R_slice HO361.out
                              subst eo105
                              obtain ⟨Ao106, co106, eo106⟩ := Kd.R_slice HO_8.out
                              subst eo106
                              go_wp2_with (first | ((with_reducible refine gate_callee (f := 18) rfl ?_); refine goesL_ (some 107) rfl rfl Try.func18 (by kernel_rfl) rfl #[.slice Ao105 t359.length co105, .slice Ao106 t301.length co106] rfl (by (try simp only [List.map_toArray, List.map_cons, List.map_nil]); first | done | rfl | (simp only [List.length_drop, List.length_take]; rfl)) ?_; (with_reducible refine (laws_eqMoveS.calls kj57 _ _ t359 _ _ t301 false _ ?side1 ?side2 ?side3 ?side4 A100.out).mono ?_); (case side1 => repeat (first | exact (Kd.R_reads' HO361.out).2.2 | (with_reducible refine Kd.C_alloc ?_ _) | (with_reducible refine Kd.C_drewN ?_ _) | (with_reducible refine Kd.C_drew ?_))); (case side2 => exact (Kd.R_reads' HO361.out).2.1); (case side3 => repeat (first | exact (Kd.R_reads' HO_8.out).2.2 | (with_reducible refine Kd.C_alloc ?_ _) | (with_reducible refine Kd.C_drewN ?_ _) | (with_reducible refine Kd.C_drew ?_))); (case side4 => exact (Kd.R_reads' HO_8.out).2.1); rintro e w107 ⟨rfl, hb⟩; refine ⟨_, rfl, ?_⟩; have n0_ := Aside0.mk (Kd.R_below (by (with_reducible repeat (first | apply Kd.R_alloc | apply Kd.R_drewN | apply Kd.R_drew)); exact HO_8.out) hb); have n1_ := Aside0.mk (Kd.R_below (by (with_reducible repeat (first | apply Kd.R_alloc | apply Kd.R_drewN | apply Kd.R_drew)); exact HO_12.out) hb); have n2_ := Aside0.mk (Kd.R_below (by (with_reducible repeat (first | apply Kd.R_alloc | apply Kd.R_drewN | apply Kd.R_drew)); exact HO_316001.out) hb); have n3_ := Aside0.mk (Kd.R_below (by (with_reducible repeat (first | apply Kd.R_alloc | apply Kd.R_drewN | apply Kd.R_drew)); exact HO_316002.out) hb); have n4_ := Aside0.mk (Kd.S_below (by (with_reducible repeat (first | apply Kd.S_alloc | apply Kd.S_drewN | apply Kd.S_drew)); exact HO_316003.out) hb); have n5_ := Aside0.mk (Kd.R_below (by (with_reducible repeat (first | apply Kd.R_alloc | apply Kd.R_drewN | apply Kd.R_drew)); exact HO349.out) hb); have n6_ := Aside0.mk (Kd.R_below (by (with_reducible repeat (first | apply Kd.R_alloc | apply Kd.R_drewN | apply Kd.R_drew)); exact HO352.out) hb); have n7_ := Aside0.mk (Kd.S_below (by (with_reducible repeat (first | apply Kd.S_alloc | apply Kd.S_drewN | apply Kd.S_drew)); exact HO355.out) hb); have n8_ := Aside0.mk (Kd.R_below (by (with_reducible repeat (first | apply Kd.R_alloc | apply Kd.R_drewN | apply Kd.R_drew)); exact HO358.out) hb); have n9_ := Aside0.mk (Kd.R_below (by (with_reducible repeat (first | apply Kd.R_alloc | apply Kd.R_drewN | apply Kd.R_drew)); exact HO361.out) hb); have n10_ := Aside0.mk (blk_below (g := gb286) (o := .cells #[.int .i64 a0_0, .slice A0_1 l0_1.length c0_1, .slice A0_2 l0_2.length c0_2, .slice A0_3 l0_3.length c0_3] 25 (0, 0)) (by (with_reducible repeat (first | refine blk_drewN ?_ _ | refine blk_drew ?_ | refine blk_alloc ?_ _)); exact BK286.out) hb); have n11_ := Aside0.mk (blk_below (g := gb315) (o := .cells #[.int .i64 t305, .slice Ao34 t306.length co34, .slice Ao35 t309.length co35, .slice Ao36 t312.length co36] 30 (0, 0)) (by (with_reducible repeat (first | refine blk_drewN ?_ _ | refine blk_drew ?_ | refine blk_alloc ?_ _)); exact BK315.out) hb); have n12_ := Aside0.mk (below_step (by repeat (first | (with_reducible first | exact HB.out | apply below_alloc | apply pw_below_drewN | apply below_drew1 | refine below_set ?_ GE286.out | refine below_set ?_ GE315.out) | exact HB.out)) hb); clear HO_8; clear HO_12; clear HO_316001; clear HO_316002; clear HO_316003; clear HO349; clear HO352; clear HO355; clear HO358; clear HO361; clear BK286; clear BK315; clear HB; have HO_8 := n0_; have HO_12 := n1_; have HO_316001 := n2_; have HO_316002 := n3_; have HO_316003 := n4_; have HO349 := n5_; have HO352 := n6_; have HO355 := n7_; have HO358 := n8_; have HO361 := n9_; have BK286 := n10_; have BK315 := n11_; have HB := n12_; clear n0_ n1_ n2_ n3_ n4_ n5_ n6_ n7_ n8_ n9_ n10_ n11_ n12_; (try clear hb); (try clear hb2); (try clear hk); (try clear hi)))
                              go_meet
                              case rel => exact ⟨_, (true), (by first | rfl | (simp; done) | (simp [*]; done)), H', ⟨by have := HJ16.out; have := HJ57.out; first | omega | exact Nat.le_refl _⟩, ⟨by (with_reducible repeat (first | apply Kd.R_alloc | apply Kd.R_drewN | apply Kd.R_drew)); exact Kd.R_mono HO_12.out (fun _ hk => trivial)⟩, ⟨by (with_reducible repeat (first | apply Kd.R_alloc | apply Kd.R_drewN | apply Kd.R_drew)); exact Kd.R_mono HO_316001.out (fun _ hk => hk.1.1.1)⟩, ⟨by (with_reducible repeat (first | apply Kd.R_alloc | apply Kd.R_drewN | apply Kd.R_drew)); exact Kd.R_mono HO_316002.out (fun _ hk => hk.1.1.1)⟩, ⟨by (with_reducible repeat (first | apply Kd.S_alloc | apply Kd.S_drewN | apply Kd.S_drew)); exact Kd.S_mono HO_316003.out (fun _ hk => ⟨hk.1.1.1.1.1, hk.1.1.1.1.2⟩)⟩, ⟨by (with_reducible repeat (first | refine blk_drewN ?_ _ | refine blk_drew ?_ | refine blk_alloc ?_ _)); exact BK286.out⟩, ⟨by (with_reducible repeat (first | refine blk_drewN ?_ _ | refine blk_drew ?_ | refine blk_alloc ?_ _)); exact BK315.out⟩, ⟨by repeat (first | (with_reducible first | exact HB.out | apply below_alloc | apply pw_below_drewN | apply below_drew1 | refine below_set ?_ GE286.out | refine below_set ?_ GE315.out) | exact HB.out)⟩⟩
                          case rest =>
                            clear HC88
                            try clear c1
                            try clear c2
                            try clear p2
                            try clear c3
                            try clear c4
                            try clear c4b0
                            try clear c4b1
                            try clear c5
                            try clear c6
                            try clear c7
                            try clear c7b0
                            try clear c8
                            try clear c9
                            try clear c10
                            try clear c12
                            try clear c13
                            try clear c16
                            try clear c17
                            try clear c18
                            try clear c19
                            try clear c20
                            try clear c21
                            try clear c22
                            try clear c32
                            try clear c42
                            try clear c49
                            try clear c52
                            try clear c55
                            try clear c67
                            try clear c71
                            try clear c71b0
                            try clear c73
                            try clear c80
                            try clear c83
                            try clear c83b0
                            try clear c84
                            try clear c84b0
                            try clear c84b1
                            try clear c91
                            try clear c101
                            try clear hcz19_0
                            try clear hcz19_1
                            try clear hcz19_2
                            try clear hcz19_3
                            try clear hcz21_0
                            try clear hcz21_1
                            try clear hcz21_2
                            try clear hcz21_3
                            try clear hcz29_0
                            try clear hcz29_1
                            try clear hcz29_2
                            try clear hcz29_3
                            try clear hcz33_0
                            try clear hcz33_1
                            try clear hcz33_2
                            try clear hcz33_3
                            try clear hcz38_0
                            try clear hcz38_1
                            try clear hcz38_2
                            try clear hcz38_3
                            try clear hcz68_0
                            try clear hcz68_1
                            try clear hcz68_2
                            try clear hcz68_3
                            try clear hcz92_0
                            try clear hcz92_1
                            try clear hcz92_2
                            try clear hcz92_3
                            try clear hcz9_0
                            try clear hcz9_1
                            try clear hcz9_2
                            try clear hcz9_3
                            try clear hfz19_0
                            try clear hfz19_1
                            try clear hfz19_2
                            try clear hfz19_3
                            try clear hfz21_0
                            try clear hfz21_1
                            try clear hfz21_2
                            try clear hfz21_3
                            try clear hfz29_0
                            try clear hfz29_1
                            try clear hfz29_2
                            try clear hfz29_3
                            try clear hfz33_0
                            try clear hfz33_1
                            try clear hfz33_2
                            try clear hfz33_3
                            try clear hfz38_0
                            try clear hfz38_1
                            try clear hfz38_2
                            try clear hfz38_3
                            try clear hfz68_0
                            try clear hfz68_1
                            try clear hfz68_2
                            try clear hfz68_3
                            try clear hfz92_0
                            try clear hfz92_1
                            try clear hfz92_2
                            try clear hfz92_3
                            try clear hfz9_0
                            try clear hfz9_1
                            try clear hfz9_2
                            try clear hfz9_3
                            try clear p2
                            obtain ⟨kq, x113_87, rfl, HA, HJ87, HO_12, HO_316001, HO_316002, HO_316003, BK286, BK315, HB⟩ := hcut
                            have hl12_87 := (Kd.R_reads' HO_12.out).1
                            rw [hl12_87] at HO_12
                            (try simp only [hl12_87])
                            (try simp only [hl12_87] at BK286)
                            (try simp only [hl12_87] at BK315)
                            (try simp only [hl12_87] at HO_316001)
                            (try simp only [hl12_87] at HO_316002)
                            (try simp only [hl12_87] at HO_316003)
                            cases kq with
                            | zero => exact absurd HA.out (by simp [laws_FnExactDescend.j2])
                            | succ kj87 =>
                              have H := HA.out
                              clear HA
                              simp only [laws_FnExactDescend.j2] at H
                              by_cases c108 : x113_87 = true
                              · subst c108
                                have H1 : (some false) = some true := by rw [if_pos rfl] at H; exact H
                                clear H
                                have H := H1
                                clear H1
                                exact absurd H (by simp)
                              · replace c108 := Bool.eq_false_iff.mpr c108
                                subst c108
                                have H1 : ((laws_heldMoveS.f kj87 t344 1).bind fun t364 => (if t364 < 0 then (some false) else (if t364 = t343 then (some true) else (some false)))) = some true := by rw [if_neg (show ¬ (false = true) by decide)] at H; exact H
                                clear H
                                have H := H1
                                clear H1
                                replace H := Option.bind_eq_some_iff.mp H
                                obtain ⟨t364, A1090, H⟩ := H
                                replace H : (if t364 < 0 then (some false) else (if t364 = t343 then (some true) else (some false))) = some true := H
                                have A109 := Aside0.mk A1090
                                clear A1090
                                by_cases c110 : t364 < 0
                                · rw [if_pos c110] at H
                                  have c110b0 : decide (t364 < 0) = true := decide_eq_true c110
                                  clear c110
                                  exact absurd H (by simp)
                                · rw [if_neg c110] at H
                                  have c110b0 : decide (t364 < 0) = false := decide_eq_false c110
                                  clear c110
                                  by_cases c111 : t364 = t343
                                  · rw [if_pos c111] at H
                                    have c111b0 : (t364 == t343) = true := beq_iff_eq.mpr c111
                                    have c111b1 : (t364 != t343) = false := bne_eq_false_iff_eq.mpr c111
                                    clear c111
                                    clear H
                                    go_wp2_with (first | ((with_reducible refine gate_callee (f := 22) rfl ?_); refine goesL_ (some 116) rfl rfl Try.func22 (by kernel_rfl) rfl #[.slice Ao89 t344.length co89, .int .i64 1] rfl (by (try simp only [List.map_toArray, List.map_cons, List.map_nil]); first | done | rfl | (simp only [List.length_drop, List.length_take]; rfl)) ?_; (with_reducible refine (laws_heldMoveS.calls kj87 _ _ t344 1 t364 _ ?side1 ?side2 A109.out).mono ?_); (case side1 => repeat (first | exact (Kd.R_reads' HO_12.out).2.2 | (with_reducible refine Kd.C_alloc ?_ _) | (with_reducible refine Kd.C_drewN ?_ _) | (with_reducible refine Kd.C_drew ?_))); (case side2 => exact (Kd.R_reads' HO_12.out).2.1); rintro e w' ⟨rfl, ⟨nd, rfl⟩⟩; refine ⟨_, rfl, ?_⟩))
                                    go_ret
                                    exact ⟨by first | rfl | (simp [errW_none, errW_some] <;> rfl) | (simp [*, errW_none, errW_some] <;> rfl), by repeat (first | (with_reducible first | exact HB.out | apply below_alloc | apply pw_below_drewN | apply below_drew1 | refine below_set ?_ GE286.out | refine below_set ?_ GE315.out) | exact HB.out)⟩
                                  · rw [if_neg c111] at H
                                    have c111b0 : (t364 == t343) = false := beq_eq_false_iff_ne.mpr c111
                                    have c111b1 : (t364 != t343) = true := bne_iff_ne.mpr c111
                                    exact absurd H (by simp)
                        · rw [if_neg c84] at H
                          have c84b0 : (t345 == t343) = false := beq_eq_false_iff_ne.mpr c84
                          have c84b1 : (t345 != t343) = true := bne_iff_ne.mpr c84
                          exact absurd H (by simp)
              · replace c55 := Bool.eq_false_iff.mpr c55
                subst c55
                have H1 : (some false) = some true := by rw [if_neg (show ¬ (false = true) by decide)] at H; exact H
                clear H
                have H := H1
                clear H1
                exact absurd H (by simp)
            · replace c52 := Bool.eq_false_iff.mpr c52
              subst c52
              have H1 : (some false) = some true := by rw [if_neg (show ¬ (false = true) by decide)] at H; exact H
              clear H
              have H := H1
              clear H1
              exact absurd H (by simp)

end Go.Proofs.Ytcjhbmjimjbphaa.QFnExactDescend
