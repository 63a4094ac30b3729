-- Written by a program of this session out of the printer's texts and contracts of its own.
import Derived.Test.YtobiblhmchoilaaSq
import Derived.Test.YtobiblhmchoilaaQFnExactDealx0
import Derived.Test.YtobiblhmchoilaaQFnExactDealx1
import Derived.Test.YtobiblhmchoilaaQFnExactDealx2
import Derived.Test.YtobiblhmchoilaaQFnExactDealx3
import Derived.Test.YtobiblhmchoilaaQFnExactDealx4
import Derived.Test.YtobiblhmchoilaaQFnExactDealx5
namespace Go.Proofs.Ytobiblhmchoilaa.QFnExactDeal
open Go.RowKit Go.Proofs.YtobiblhmchoilaaW.PrintWords Go.Proofs.YtobiblhmchoilaaW.PrintLast Go.Proofs.YtobiblhmchoilaaW.PrintMore Go.Proofs.Ytobiblhmchoilaa.Sq
attribute [local go_sem] max2_int min2_int max_two min_two max_three min_three max_four min_four   -- for this text's walks alone
set_option linter.unusedVariables false
set_option linter.unusedSimpArgs false

/-! ### laws_FnExactDeal: function 3 -/
mutual
def laws_FnExactDeal.j0 : Nat → List (S36) → Int → Int → List Int → Bool → List (S39) → List Int → Bool → Bool → Option (Bool)
 | 0, _, _, _, _, _, _, _, _, _ => none
 | k + 1, x0, x1, x2, x8, x9, x10, x11, x12, x48 => if x48 = true then (some false) else ((laws_toEntryS.f k x0).bind fun t210 => ((laws_eqEntryS.f k x10 t210).bind fun t213 => (if t213 = true then ((laws_markEntryS.f k x10 1).bind fun bt214 => (if bt214.1 < 0 then (laws_FnExactDeal.j1 k x0 x1 x2 x8 x9 x11 true) else ((laws_eqInt64S.f k x11 x8).bind fun t216 => (if t216 = true then (laws_FnExactDeal.j1 k x0 x1 x2 x8 x9 x11 (x12 != x9)) else (laws_FnExactDeal.j1 k x0 x1 x2 x8 x9 x11 true))))) else (some false))))
def laws_FnExactDeal.j1 : Nat → List (S36) → Int → Int → List Int → Bool → List Int → Bool → Option (Bool)
 | 0, _, _, _, _, _, _, _ => none
 | k + 1, x0, x1, x2, x8, x9, x11, x69 => if x69 = true then (some false) else ((laws_markInt64S.f k x11 1).bind fun bt217 => ((laws_heldInt64S.f k bt217.2 1).bind fun t219 => (if t219 < 0 then (some false) else (if t219 = bt217.1 then ((laws_toEntryS.f k x0).bind fun t220 => ((impl_Deal.f k t220 x1 x2).bind fun bt223 => ((laws_eqInt64S.f k bt223.1 x8).bind fun t227 => (if t227 = true then (laws_FnExactDeal.j2 k bt217.2 bt217.1 (bt223.2 != x9)) else (laws_FnExactDeal.j2 k bt217.2 bt217.1 true))))) else (some false)))))
def laws_FnExactDeal.j2 : Nat → List Int → Int → Bool → Option (Bool)
 | 0, _, _, _ => none
 | k + 1, x11, x14, x97 => if x97 = true then (some false) else ((laws_heldInt64S.f k x11 1).bind fun t228 => (if t228 < 0 then (some false) else (if t228 = x14 then (some true) else (some false))))
end
def laws_FnExactDeal.f (k : Nat) (l0 : List (S36)) (a1 : Int) (a2 : Int) : Option (Bool) := (laws_szEntryS.f k l0 1048576).bind fun t194 => (if t194 < 0 then (some true) else ((laws_toEntryS.f k l0).bind fun t195 => ((spec_Deal.f k t195 a1 a2).bind fun bt198 => ((laws_toEntryS.f k l0).bind fun t202 => ((impl_Deal.f k t202 a1 a2).bind fun bt205 => ((laws_eqInt64S.f k bt205.1 bt198.1).bind fun t209 => (if t209 = true then (laws_FnExactDeal.j0 k l0 a1 a2 bt198.1 bt198.2 t202 bt205.1 bt205.2 (bt205.2 != bt198.2)) else (laws_FnExactDeal.j0 k l0 a1 a2 bt198.1 bt198.2 t202 bt205.1 bt205.2 true))))))))
theorem laws_FnExactDeal.mono_l : ∀ k, (∀ y0 y1 y2 y3 y4 y5 y6 y7 y8, LeO (laws_FnExactDeal.j0 k y0 y1 y2 y3 y4 y5 y6 y7 y8) (laws_FnExactDeal.j0 (k + 1) y0 y1 y2 y3 y4 y5 y6 y7 y8)) ∧ (∀ y0 y1 y2 y3 y4 y5 y6, LeO (laws_FnExactDeal.j1 k y0 y1 y2 y3 y4 y5 y6) (laws_FnExactDeal.j1 (k + 1) y0 y1 y2 y3 y4 y5 y6)) ∧ (∀ y0 y1 y2, LeO (laws_FnExactDeal.j2 k y0 y1 y2) (laws_FnExactDeal.j2 (k + 1) y0 y1 y2))
 | 0 => ⟨fun _ _ _ _ _ _ _ _ _ r h => by simp [laws_FnExactDeal.j0] at h, fun _ _ _ _ _ _ _ r h => by simp [laws_FnExactDeal.j1] at h, fun _ _ _ r h => by simp [laws_FnExactDeal.j2] at h⟩
 | k + 1 => by
  obtain ⟨ih0, ih1, ih2⟩ := laws_FnExactDeal.mono_l k
  refine ⟨?_, ?_, ?_⟩
  intro y0 y1 y2 y3 y4 y5 y6 y7 y8; unfold laws_FnExactDeal.j0; rotate_left
  intro y0 y1 y2 y3 y4 y5 y6; unfold laws_FnExactDeal.j1; rotate_left
  intro y0 y1 y2; unfold laws_FnExactDeal.j2; rotate_left
  all_goals repeat' first
  | (with_reducible exact ih0 _ _ _ _ _ _ _ _ _)
  | (with_reducible exact ih1 _ _ _ _ _ _ _)
  | (with_reducible exact ih2 _ _ _)
  | (with_reducible exact impl_Deal.mono _ _ _ _)
  | (with_reducible exact laws_eqEntryS.mono _ _ _)
  | (with_reducible exact laws_eqInt64S.mono _ _ _)
  | (with_reducible exact laws_heldInt64S.mono _ _ _)
  | (with_reducible exact laws_markEntryS.mono _ _ _)
  | (with_reducible exact laws_markInt64S.mono _ _ _)
  | (with_reducible exact laws_szEntryS.mono _ _ _)
  | (with_reducible exact laws_toEntryS.mono _ _)
  | (with_reducible exact spec_Deal.mono _ _ _ _)
  | (with_reducible exact LeO.refl _)
  | (with_reducible exact LeO.none _)
  | (with_reducible refine LeO.ite ?_ ?_)
  | (with_reducible refine LeO.bind ?_ (fun _ => ?_))
  | exact ih0 _ _ _ _ _ _ _ _ _
  | exact ih1 _ _ _ _ _ _ _
  | exact ih2 _ _ _
  | exact impl_Deal.mono _ _ _ _
  | exact laws_eqEntryS.mono _ _ _
  | exact laws_eqInt64S.mono _ _ _
  | exact laws_heldInt64S.mono _ _ _
  | exact laws_markEntryS.mono _ _ _
  | exact laws_markInt64S.mono _ _ _
  | exact laws_szEntryS.mono _ _ _
  | exact laws_toEntryS.mono _ _
  | exact spec_Deal.mono _ _ _ _
  | exact LeO.none _
  | refine LeO.ite ?_ ?_
  | refine LeO.bind ?_ (fun _ => ?_)
theorem laws_FnExactDeal.mono : ∀ a0 a1 a2 k, LeO (laws_FnExactDeal.f k a0 a1 a2) (laws_FnExactDeal.f (k + 1) a0 a1 a2) := by
 intro a0 a1 a2 k
 obtain ⟨ih0, ih1, ih2⟩ := laws_FnExactDeal.mono_l k
 unfold laws_FnExactDeal.f
 repeat' first
   | (with_reducible exact ih0 _ _ _ _ _ _ _ _ _)
   | (with_reducible exact ih1 _ _ _ _ _ _ _)
   | (with_reducible exact ih2 _ _ _)
   | (with_reducible exact impl_Deal.mono _ _ _ _)
   | (with_reducible exact laws_eqEntryS.mono _ _ _)
   | (with_reducible exact laws_eqInt64S.mono _ _ _)
   | (with_reducible exact laws_heldInt64S.mono _ _ _)
   | (with_reducible exact laws_markEntryS.mono _ _ _)
   | (with_reducible exact laws_markInt64S.mono _ _ _)
   | (with_reducible exact laws_szEntryS.mono _ _ _)
   | (with_reducible exact laws_toEntryS.mono _ _)
   | (with_reducible exact spec_Deal.mono _ _ _ _)
   | (with_reducible exact LeO.refl _)
   | (with_reducible exact LeO.none _)
   | (with_reducible refine LeO.ite ?_ ?_)
   | (with_reducible refine LeO.bind ?_ (fun _ => ?_))
   | exact ih0 _ _ _ _ _ _ _ _ _
   | exact ih1 _ _ _ _ _ _ _
   | exact ih2 _ _ _
   | exact impl_Deal.mono _ _ _ _
   | exact laws_eqEntryS.mono _ _ _
   | exact laws_eqInt64S.mono _ _ _
   | exact laws_heldInt64S.mono _ _ _
   | exact laws_markEntryS.mono _ _ _
   | exact laws_markInt64S.mono _ _ _
   | exact laws_szEntryS.mono _ _ _
   | exact laws_toEntryS.mono _ _
   | exact spec_Deal.mono _ _ _ _
   | exact LeO.none _
   | refine LeO.ite ?_ ?_
   | refine LeO.bind ?_ (fun _ => ?_)
set_option maxHeartbeats 8000000 in
set_option maxRecDepth 100000 in
theorem laws_FnExactDeal.calls (k : Nat) (A0 : Option Addr) (c0 : Nat) (l0 : List (S36)) (a1 : Int) (a2 : Int) (w : World) (hr0 : Kd.C k36 w A0 l0.length l0) (hc0 : l0.length ≤ c0) (h : laws_FnExactDeal.f k l0 a1 a2 = some true) :
  Calls Try.prog 3 #[.slice A0 l0.length c0, .int .i64 a1, .int .i64 a2] w fun e w' => e = .returned (.bool true) ∧ Below w.heap.size w w' := by
 have HR0 := Aside0.mk hr0; have HC0 := Aside0.mk hc0; clear hr0 hc0
 have HB := Aside0.mk (Below.refl w.heap.size w)
 have H : ((laws_szEntryS.f k l0 1048576).bind fun t194 => (if t194 < 0 then (some true) else ((laws_toEntryS.f k l0).bind fun t195 => ((spec_Deal.f k t195 a1 a2).bind fun bt198 => ((laws_toEntryS.f k l0).bind fun t202 => ((impl_Deal.f k t202 a1 a2).bind fun bt205 => ((laws_eqInt64S.f k bt205.1 bt198.1).bind fun t209 => (if t209 = true then (laws_FnExactDeal.j0 k l0 a1 a2 bt198.1 bt198.2 t202 bt205.1 bt205.2 (bt205.2 != bt198.2)) else (laws_FnExactDeal.j0 k l0 a1 a2 bt198.1 bt198.2 t202 bt205.1 bt205.2 true))))))))) = some true := h
 clear h; replace H := Option.bind_eq_some_iff.mp H
 obtain ⟨t194, A40, H⟩ := H
 replace H : (if t194 < 0 then (some true) else ((laws_toEntryS.f k l0).bind fun t195 => ((spec_Deal.f k t195 a1 a2).bind fun bt198 => ((laws_toEntryS.f k l0).bind fun t202 => ((impl_Deal.f k t202 a1 a2).bind fun bt205 => ((laws_eqInt64S.f k bt205.1 bt198.1).bind fun t209 => (if t209 = true then (laws_FnExactDeal.j0 k l0 a1 a2 bt198.1 bt198.2 t202 bt205.1 bt205.2 (bt205.2 != bt198.2)) else (laws_FnExactDeal.j0 k l0 a1 a2 bt198.1 bt198.2 t202 bt205.1 bt205.2 true)))))))) = some true := H
 have A4 := Aside0.mk A40; clear A40
 by_cases c5 : t194 < 0
 ·rw [if_pos c5] at H
  have c5b0 : decide (t194 < 0) = true := decide_eq_true c5
  clear c5 H
  go_enter Try.func3, Try.ntmps3
  go_wp2_with (first | ((with_reducible refine gate_callee (f := 4) rfl ?_); refine gL_ (some 20) Try.func4 #[.slice A0 l0.length c0, .int .i64 1048576] ?_; (with_reducible refine (laws_szEntryS.calls k _ _ l0 1048576 t194 _ ?side1 ?side2 A4.out).mono ?_); (case side1 => repeat (first | exact HR0.out | (with_reducible refine Kd.C_alloc ?_ _) | (with_reducible refine Kd.C_drewN ?_ _) | (with_reducible refine Kd.C_drew ?_))); (case side2 => exact HC0.out); rintro e w6 ⟨rfl, hb⟩; refine ⟨_, rfl, ?_⟩; replace HB := bS_ HB hb; (try clear hb); (try clear hb2); (try clear hk); (try clear hi)))
  go_ret
  exact ⟨by first | rfl | (simp [errW_none, errW_some] <;> rfl) | (simp [*, errW_none, errW_some] <;> rfl), by repeat (first | (with_reducible first | exact HB.out | apply below_alloc | apply pw_below_drewN | apply below_drew1) | exact HB.out)⟩
 ·rw [if_neg c5] at H
  have c5b0 : decide (t194 < 0) = false := decide_eq_false c5
  clear c5; replace H := Option.bind_eq_some_iff.mp H
  obtain ⟨t195, A70, H⟩ := H
  replace H : ((spec_Deal.f k t195 a1 a2).bind fun bt198 => ((laws_toEntryS.f k l0).bind fun t202 => ((impl_Deal.f k t202 a1 a2).bind fun bt205 => ((laws_eqInt64S.f k bt205.1 bt198.1).bind fun t209 => (if t209 = true then (laws_FnExactDeal.j0 k l0 a1 a2 bt198.1 bt198.2 t202 bt205.1 bt205.2 (bt205.2 != bt198.2)) else (laws_FnExactDeal.j0 k l0 a1 a2 bt198.1 bt198.2 t202 bt205.1 bt205.2 true)))))) = some true := H
  have A7 := Aside0.mk A70; clear A70; replace H := Option.bind_eq_some_iff.mp H
  obtain ⟨⟨t198, t199⟩, A80, H⟩ := H
  replace H : ((laws_toEntryS.f k l0).bind fun t202 => ((impl_Deal.f k t202 a1 a2).bind fun bt205 => ((laws_eqInt64S.f k bt205.1 t198).bind fun t209 => (if t209 = true then (laws_FnExactDeal.j0 k l0 a1 a2 t198 t199 t202 bt205.1 bt205.2 (bt205.2 != t199)) else (laws_FnExactDeal.j0 k l0 a1 a2 t198 t199 t202 bt205.1 bt205.2 true))))) = some true := H
  have A8 := Aside0.mk A80; clear A80; replace H := Option.bind_eq_some_iff.mp H
  obtain ⟨t202, A90, H⟩ := H
  replace H : ((impl_Deal.f k t202 a1 a2).bind fun bt205 => ((laws_eqInt64S.f k bt205.1 t198).bind fun t209 => (if t209 = true then (laws_FnExactDeal.j0 k l0 a1 a2 t198 t199 t202 bt205.1 bt205.2 (bt205.2 != t199)) else (laws_FnExactDeal.j0 k l0 a1 a2 t198 t199 t202 bt205.1 bt205.2 true)))) = some true := H
  have A9 := Aside0.mk A90; clear A90; replace H := Option.bind_eq_some_iff.mp H
  obtain ⟨⟨t205, t206⟩, A100, H⟩ := H
  replace H : ((laws_eqInt64S.f k t205 t198).bind fun t209 => (if t209 = true then (laws_FnExactDeal.j0 k l0 a1 a2 t198 t199 t202 t205 t206 (t206 != t199)) else (laws_FnExactDeal.j0 k l0 a1 a2 t198 t199 t202 t205 t206 true))) = some true := H
  have A10 := Aside0.mk A100; clear A100; have HC11 := Aside0.mk H; clear H
  go_enter Try.func3, Try.ntmps3
  go_upto_region 8 with (first | ((with_reducible refine gate_callee (f := 4) rfl ?_); refine gL_ (some 20) Try.func4 #[.slice A0 l0.length c0, .int .i64 1048576] ?_; (with_reducible refine (laws_szEntryS.calls k _ _ l0 1048576 t194 _ ?side1 ?side2 A4.out).mono ?_); (case side1 => repeat (first | exact HR0.out | (with_reducible refine Kd.C_alloc ?_ _) | (with_reducible refine Kd.C_drewN ?_ _) | (with_reducible refine Kd.C_drew ?_))); (case side2 => exact HC0.out); rintro e w12 ⟨rfl, hb⟩; refine ⟨_, rfl, ?_⟩; replace HB := bS_ HB hb; (try clear hb); (try clear hb2); (try clear hk); (try clear hi)) | ((with_reducible refine gate_callee (f := 6) rfl ?_); refine gL_ (some 25) Try.func6 #[.slice A0 l0.length c0] ?_; (with_reducible refine (laws_toEntryS.calls k _ _ l0 t195 _ ?side1 ?side2 A7.out).mono ?_); (case side1 => exact cB_ HR0 HB); (case side2 => exact HC0.out); rintro e w13 ⟨v196, rfl, ho0, hb⟩; refine ⟨_, rfl, ?_⟩; have HO197 := rL_ ho0 HB; replace HB := bS_ HB hb; (try clear hb); (try clear hb2); (try clear hk); (try clear hi); (try clear ho0); obtain ⟨Ao14, co14, eo14⟩ := Kd.R_slice HO197.out; subst eo14) | ((with_reducible refine gate_callee (f := 5) rfl ?_); refine gL_ (some 28) Try.func5 #[.slice Ao14 t195.length co14, .int .i64 a1, .int .i64 a2] ?_; (with_reducible refine (spec_Deal.calls k _ _ t195 a1 a2 t198 t199 _ ?side1 ?side2 A8.out).mono ?_); (case side1 => exact rD_ HO197); (case side2 => exact (Kd.R_reads' HO197.out).2.1); rintro e w15 ⟨v200, rfl, ho0, hb⟩; refine ⟨_, rfl, ?_⟩; replace HO197 := rB_ HO197 hb; have HO201 := rL_ ho0 HB; replace HB := bS_ HB hb; (try clear hb); (try clear hb2); (try clear hk); (try clear hi); (try clear ho0)) | ((with_reducible refine gate_callee (f := 6) rfl ?_); refine gL_ (some 32) Try.func6 #[.slice A0 l0.length c0] ?_; (with_reducible refine (laws_toEntryS.calls k _ _ l0 t202 _ ?side1 ?side2 A9.out).mono ?_); (case side1 => exact cB_ HR0 HB); (case side2 => exact HC0.out); rintro e w16 ⟨v203, rfl, ho0, hb⟩; refine ⟨_, rfl, ?_⟩; replace HO201 := rB_ HO201 hb; have HO204 := rL_ (rN_ ho0 HO197) HB; replace HO197 := rE_ HO197 ho0 hb; replace HB := bS_ HB hb; (try clear hb); (try clear hb2); (try clear hk); (try clear hi); (try clear ho0); obtain ⟨Ao17, co17, eo17⟩ := Kd.R_slice HO204.out; subst eo17) | ((with_reducible refine gate_callee (f := 7) rfl ?_); refine gL_ (some 37) Try.func7 #[.slice Ao17 t202.length co17, .int .i64 a1, .int .i64 a2] ?_; (with_reducible refine (impl_Deal.calls k _ _ t202 a1 a2 t205 t206 _ ?side1 ?side2 A10.out).mono ?_); (case side1 => exact rD_ HO204); (case side2 => exact (Kd.R_reads' HO204.out).2.1); rintro e w18 ⟨v207, rfl, ho0, hb⟩; refine ⟨_, rfl, ?_⟩; replace HO197 := rB_ HO197 hb; replace HO204 := rB_ HO204 hb; have HO208 := rL_ (rN_ ho0 HO201) HB; replace HO201 := rE_ HO201 ho0 hb; replace HB := bS_ HB hb; (try clear hb); (try clear hb2); (try clear hk); (try clear hi); (try clear ho0)))
  (try simp only [Act.put, List.setIfInBounds_toArray, List.set_cons_zero, List.set_cons_succ])
  go_cut [48] (fun v48 wc => ∃ (kq : Nat) (x48_10 : Bool), v48 = .bool x48_10 ∧ Aside0 (laws_FnExactDeal.j0 kq l0 a1 a2 t198 t199 t202 t205 t206 x48_10 = some true) ∧ Aside0 (kq ≤ k) ∧ Aside0 (Kd.R (Kd.int .i64) 2 wc w.heap.size (fun k_ => some k_ ≠ (v207 : Value).ownBlock) v200 t198) ∧ Aside0 (Kd.R k39 39 wc w.heap.size (fun _ => True) (.slice Ao17 t202.length co17) t202) ∧ Aside0 (Kd.R (Kd.int .i64) 2 wc w.heap.size (fun k_ => some k_ ≠ (v200 : Value).ownBlock) v207 t205) ∧ Aside0 (Below w.heap.size w wc))
  case first =>
   have H := HC11.out; clear HC11; replace H := Option.bind_eq_some_iff.mp H
   obtain ⟨t209, A190, H⟩ := H
   replace H : (if t209 = true then (laws_FnExactDeal.j0 k l0 a1 a2 t198 t199 t202 t205 t206 (t206 != t199)) else (laws_FnExactDeal.j0 k l0 a1 a2 t198 t199 t202 t205 t206 true)) = some true := H
   have A19 := Aside0.mk A190; clear A190
   by_cases c20 : t209 = true
   ·subst c20
    have H1 : (laws_FnExactDeal.j0 k l0 a1 a2 t198 t199 t202 t205 t206 (t206 != t199)) = some true := by rw [if_pos rfl] at H; exact H
    clear H; have H := H1; clear H1; have H' := Aside0.mk H; clear H
    obtain ⟨Ao21, co21, eo21⟩ := Kd.R_slice HO208.out
    subst eo21
    obtain ⟨Ao22, co22, eo22⟩ := Kd.R_slice HO201.out
    subst eo22
    go_wp2_with (first | ((with_reducible refine gate_callee (f := 8) rfl ?_); refine gL_ (some 42) Try.func8 #[.slice Ao21 t205.length co21, .slice Ao22 t198.length co22] ?_; (with_reducible refine (laws_eqInt64S.calls k _ _ t205 _ _ t198 true _ ?side1 ?side2 ?side3 ?side4 A19.out).mono ?_); (case side1 => exact rD_ HO208); (case side2 => exact (Kd.R_reads' HO208.out).2.1); (case side3 => exact rD_ HO201); (case side4 => exact (Kd.R_reads' HO201.out).2.1); rintro e w' ⟨rfl, ⟨nd, rfl⟩⟩; refine ⟨_, rfl, ?_⟩))
    go_meet
    case rel => exact ⟨_, ((t206 != t199)), (by first | rfl | (simp; done) | (simp [*]; done)), H', ⟨by first | omega | exact Nat.le_refl _⟩, ⟨by (with_reducible repeat (first | apply Kd.R_alloc | apply Kd.R_drewN | apply Kd.R_drew)); exact Kd.R_mono HO201.out (fun _ hk => hk.2)⟩, ⟨by (with_reducible repeat (first | apply Kd.R_alloc | apply Kd.R_drewN | apply Kd.R_drew)); exact Kd.R_mono HO204.out (fun _ hk => trivial)⟩, ⟨by (with_reducible repeat (first | apply Kd.R_alloc | apply Kd.R_drewN | apply Kd.R_drew)); exact Kd.R_mono HO208.out (fun _ hk => hk.2)⟩, ⟨by repeat (first | (with_reducible first | exact HB.out | apply below_alloc | apply pw_below_drewN | apply below_drew1) | exact HB.out)⟩⟩
   ·replace c20 := Bool.eq_false_iff.mpr c20
    subst c20
    have H1 : (laws_FnExactDeal.j0 k l0 a1 a2 t198 t199 t202 t205 t206 true) = some true := by rw [if_neg (show ¬ (false = true) by decide)] at H; exact H
    clear H; have H := H1; clear H1; have H' := Aside0.mk H; clear H
    obtain ⟨Ao23, co23, eo23⟩ := Kd.R_slice HO208.out
    subst eo23
    obtain ⟨Ao24, co24, eo24⟩ := Kd.R_slice HO201.out
    subst eo24
    go_wp2_with (first | ((with_reducible refine gate_callee (f := 8) rfl ?_); refine gL_ (some 42) Try.func8 #[.slice Ao23 t205.length co23, .slice Ao24 t198.length co24] ?_; (with_reducible refine (laws_eqInt64S.calls k _ _ t205 _ _ t198 false _ ?side1 ?side2 ?side3 ?side4 A19.out).mono ?_); (case side1 => exact rD_ HO208); (case side2 => exact (Kd.R_reads' HO208.out).2.1); (case side3 => exact rD_ HO201); (case side4 => exact (Kd.R_reads' HO201.out).2.1); rintro e w' ⟨rfl, ⟨nd, rfl⟩⟩; refine ⟨_, rfl, ?_⟩))
    go_meet
    case rel => exact ⟨_, (true), (by first | rfl | (simp; done) | (simp [*]; done)), H', ⟨by first | omega | exact Nat.le_refl _⟩, ⟨by (with_reducible repeat (first | apply Kd.R_alloc | apply Kd.R_drewN | apply Kd.R_drew)); exact Kd.R_mono HO201.out (fun _ hk => hk.2)⟩, ⟨by (with_reducible repeat (first | apply Kd.R_alloc | apply Kd.R_drewN | apply Kd.R_drew)); exact Kd.R_mono HO204.out (fun _ hk => trivial)⟩, ⟨by (with_reducible repeat (first | apply Kd.R_alloc | apply Kd.R_drewN | apply Kd.R_drew)); exact Kd.R_mono HO208.out (fun _ hk => hk.2)⟩, ⟨by repeat (first | (with_reducible first | exact HB.out | apply below_alloc | apply pw_below_drewN | apply below_drew1) | exact HB.out)⟩⟩
  case rest =>
   clear HC11; (try clear c2); (try clear p2); (try clear c3); (try clear c4); (try clear c5); (try clear c5b0); (try clear c6); (try clear c7); (try clear c8); (try clear c20)
   obtain ⟨kq, x48_10, rfl, HA, HJ10, HO_8, HO_10, HO_11, HB⟩ := hcut
   cases kq with
   | zero => exact absurd HA.out (by simp [laws_FnExactDeal.j0])
   | succ kj10 =>
    have H := HA.out; clear HA
    simp only [laws_FnExactDeal.j0] at H
    by_cases c25 : x48_10 = true
    ·subst c25
     have H1 : (some false) = some true := by rw [if_pos rfl] at H; exact H
     clear H; have H := H1; clear H1
     exact absurd H (by simp)
    ·replace c25 := Bool.eq_false_iff.mpr c25
     subst c25
     have H1 : ((laws_toEntryS.f kj10 l0).bind fun t210 => ((laws_eqEntryS.f kj10 t202 t210).bind fun t213 => (if t213 = true then ((laws_markEntryS.f kj10 t202 1).bind fun bt214 => (if bt214.1 < 0 then (laws_FnExactDeal.j1 kj10 l0 a1 a2 t198 t199 t205 true) else ((laws_eqInt64S.f kj10 t205 t198).bind fun t216 => (if t216 = true then (laws_FnExactDeal.j1 kj10 l0 a1 a2 t198 t199 t205 (t206 != t199)) else (laws_FnExactDeal.j1 kj10 l0 a1 a2 t198 t199 t205 true))))) else (some false)))) = some true := by rw [if_neg (show ¬ (false = true) by decide)] at H; exact H
     clear H; have H := H1; clear H1; replace H := Option.bind_eq_some_iff.mp H
     obtain ⟨t210, A260, H⟩ := H
     replace H : ((laws_eqEntryS.f kj10 t202 t210).bind fun t213 => (if t213 = true then ((laws_markEntryS.f kj10 t202 1).bind fun bt214 => (if bt214.1 < 0 then (laws_FnExactDeal.j1 kj10 l0 a1 a2 t198 t199 t205 true) else ((laws_eqInt64S.f kj10 t205 t198).bind fun t216 => (if t216 = true then (laws_FnExactDeal.j1 kj10 l0 a1 a2 t198 t199 t205 (t206 != t199)) else (laws_FnExactDeal.j1 kj10 l0 a1 a2 t198 t199 t205 true))))) else (some false))) = some true := H
     have A26 := Aside0.mk A260; clear A260; replace H := Option.bind_eq_some_iff.mp H
     obtain ⟨t213, A270, H⟩ := H
     replace H : (if t213 = true then ((laws_markEntryS.f kj10 t202 1).bind fun bt214 => (if bt214.1 < 0 then (laws_FnExactDeal.j1 kj10 l0 a1 a2 t198 t199 t205 true) else ((laws_eqInt64S.f kj10 t205 t198).bind fun t216 => (if t216 = true then (laws_FnExactDeal.j1 kj10 l0 a1 a2 t198 t199 t205 (t206 != t199)) else (laws_FnExactDeal.j1 kj10 l0 a1 a2 t198 t199 t205 true))))) else (some false)) = some true := H
     have A27 := Aside0.mk A270; clear A270
     by_cases c28 : t213 = true
     ·subst c28
      have H1 : ((laws_markEntryS.f kj10 t202 1).bind fun bt214 => (if bt214.1 < 0 then (laws_FnExactDeal.j1 kj10 l0 a1 a2 t198 t199 t205 true) else ((laws_eqInt64S.f kj10 t205 t198).bind fun t216 => (if t216 = true then (laws_FnExactDeal.j1 kj10 l0 a1 a2 t198 t199 t205 (t206 != t199)) else (laws_FnExactDeal.j1 kj10 l0 a1 a2 t198 t199 t205 true))))) = some true := by rw [if_pos rfl] at H; exact H
      clear H; have H := H1; clear H1; replace H := Option.bind_eq_some_iff.mp H
      obtain ⟨⟨t214, t215⟩, A290, H⟩ := H
      replace H : (if t214 < 0 then (laws_FnExactDeal.j1 kj10 l0 a1 a2 t198 t199 t205 true) else ((laws_eqInt64S.f kj10 t205 t198).bind fun t216 => (if t216 = true then (laws_FnExactDeal.j1 kj10 l0 a1 a2 t198 t199 t205 (t206 != t199)) else (laws_FnExactDeal.j1 kj10 l0 a1 a2 t198 t199 t205 true)))) = some true := H
      have A29 := Aside0.mk A290; clear A290; have HC30 := Aside0.mk H; clear H
      go_upto_region 14 with (first | ((with_reducible refine gate_callee (f := 6) rfl ?_); refine gL_ (some 51) Try.func6 #[.slice A0 l0.length c0] ?_; (with_reducible refine (laws_toEntryS.calls kj10 _ _ l0 t210 _ ?side1 ?side2 A26.out).mono ?_); (case side1 => exact cB_ HR0 HB); (case side2 => exact HC0.out); rintro e w31 ⟨v211, rfl, ho0, hb⟩; refine ⟨_, rfl, ?_⟩; replace HO_8 := rB_ HO_8 hb; replace HO_11 := rB_ HO_11 hb; have HO212 := rL_ (rN_ ho0 HO_10) HB; replace HO_10 := rE_ HO_10 ho0 hb; replace HB := bS_ HB hb; (try clear hb); (try clear hb2); (try clear hk); (try clear hi); (try clear ho0); obtain ⟨Ao32, co32, eo32⟩ := Kd.R_slice HO212.out; subst eo32) | ((with_reducible refine gate_callee (f := 9) rfl ?_); refine gL_ (some 52) Try.func9 #[.slice Ao17 t202.length co17, .slice Ao32 t210.length co32] ?_; (with_reducible refine (laws_eqEntryS.calls kj10 _ _ t202 _ _ t210 true _ ?side1 ?side2 ?side3 ?side4 A27.out).mono ?_); (case side1 => exact rD_ HO_10); (case side2 => exact (Kd.R_reads' HO_10.out).2.1); (case side3 => exact rD_ HO212); (case side4 => exact (Kd.R_reads' HO212.out).2.1); rintro e w33 ⟨rfl, hb⟩; refine ⟨_, rfl, ?_⟩; replace HO_8 := rB_ HO_8 hb; replace HO_10 := rB_ HO_10 hb; replace HO_11 := rB_ HO_11 hb; replace HO212 := rB_ HO212 hb; replace HB := bS_ HB hb; (try clear hb); (try clear hb2); (try clear hk); (try clear hi)) | ((with_reducible refine gate_callee (f := 10) rfl ?_); refine gL_ (some 56) Try.func10 #[.slice Ao17 t202.length co17, .int .i64 1] ?_; (with_reducible refine (laws_markEntryS.calls kj10 (fun k_ => some k_ = (.slice Ao17 t202.length co17 : Value).ownBlock) (.slice Ao17 t202.length co17) t202 1 t214 t215 w _ ?side1 ?side2 A29.out).mono ?_); (case side1 => repeat (first | (with_reducible first | exact HB.out | apply below_alloc | apply pw_below_drewN | apply below_drew1) | exact HB.out)); (case side2 => exact Kd.R_tight rfl (rT_ HO_10)); rintro e w34 ⟨rfl, hy0, hb, hkp⟩; refine ⟨_, rfl, ?_⟩; replace HO_8 := Aside0.mk (Kd.R_mono (ok' := fun k_ => some k_ ≠ (v207 : Value).ownBlock) (Kd.R_keptB ((Kd.R_apart' HO_8.out (Kd.R_typed HO_10.out) (by decide))) hkp (fun k_ hk_ hs_ => (hk_.2) hs_)) (fun k_ hk_ => hk_.1.1)); replace HO_11 := Aside0.mk (Kd.R_mono (ok' := fun k_ => some k_ ≠ (v200 : Value).ownBlock) (Kd.R_keptB ((Kd.R_apart' HO_11.out (Kd.R_typed HO_10.out) (by decide))) hkp (fun k_ hk_ hs_ => (hk_.2) hs_)) (fun k_ hk_ => hk_.1.1)); replace HO_10 := Aside0.mk (Kd.R_reok rfl hy0 (fun k_ e_ => HO_10.out.1 k_ e_)); replace HO212 := Aside0.mk (Kd.R_mono (ok' := fun k_ => some k_ ≠ (.slice Ao17 t202.length co17 : Value).ownBlock) (Kd.R_keptB (rT_ HO212) hkp (fun k_ hk_ hs_ => (hk_.2) hs_)) (fun k_ hk_ => hk_.1.2)); replace HB := Aside0.mk (hb); (try clear hb); (try clear hkp); (try clear hy0)))
      (try simp only [Act.put, List.setIfInBounds_toArray, List.set_cons_zero, List.set_cons_succ])
      go_cut [69] (fun v69 wc => ∃ (kq : Nat) (x69_29 : Bool), v69 = .bool x69_29 ∧ Aside0 (laws_FnExactDeal.j1 kq l0 a1 a2 t198 t199 t205 x69_29 = some true) ∧ Aside0 (kq ≤ kj10) ∧ Aside0 (Kd.R (Kd.int .i64) 2 wc w.heap.size (fun k_ => some k_ ≠ (v207 : Value).ownBlock) v200 t198) ∧ Aside0 (Kd.R (Kd.int .i64) 2 wc w.heap.size (fun k_ => some k_ ≠ (v200 : Value).ownBlock) v207 t205) ∧ Aside0 (Below w.heap.size w wc))
      case first =>
       have H := HC30.out; clear HC30
       by_cases c35 : t214 < 0
       ·rw [if_pos c35] at H
        have c35b0 : decide (t214 < 0) = true := decide_eq_true c35
        clear c35
        (first | rw [c35b0] | (simp only [i64_w, i32_w]; rw [c35b0]) | skip)
        have H' := Aside0.mk H; clear H
        go_wp2
        go_meet
        case rel => exact ⟨_, (true), (by first | rfl | (simp; done) | (simp [*]; done)), H', ⟨by have := HJ10.out; first | omega | exact Nat.le_refl _⟩, ⟨by (with_reducible repeat (first | apply Kd.R_alloc | apply Kd.R_drewN | apply Kd.R_drew)); exact HO_8.out⟩, ⟨by (with_reducible repeat (first | apply Kd.R_alloc | apply Kd.R_drewN | apply Kd.R_drew)); exact HO_11.out⟩, ⟨by repeat (first | (with_reducible first | exact HB.out | apply below_alloc | apply pw_below_drewN | apply below_drew1) | exact HB.out)⟩⟩
       ·rw [if_neg c35] at H
        have c35b0 : decide (t214 < 0) = false := decide_eq_false c35
        clear c35
        (first | rw [c35b0] | (simp only [i64_w, i32_w]; rw [c35b0]) | skip)
        replace H := Option.bind_eq_some_iff.mp H
        obtain ⟨t216, A360, H⟩ := H
        replace H : (if t216 = true then (laws_FnExactDeal.j1 kj10 l0 a1 a2 t198 t199 t205 (t206 != t199)) else (laws_FnExactDeal.j1 kj10 l0 a1 a2 t198 t199 t205 true)) = some true := H
        have A36 := Aside0.mk A360; clear A360
        by_cases c37 : t216 = true
        ·subst c37
         have H1 : (laws_FnExactDeal.j1 kj10 l0 a1 a2 t198 t199 t205 (t206 != t199)) = some true := by rw [if_pos rfl] at H; exact H
         clear H; have H := H1; clear H1; have H' := Aside0.mk H; clear H
         obtain ⟨Ao38, co38, eo38⟩ := Kd.R_slice HO_11.out
         subst eo38
         obtain ⟨Ao39, co39, eo39⟩ := Kd.R_slice HO_8.out
         subst eo39
         go_wp2_with (first | (go_at_call 8; (with_reducible refine (laws_eqInt64S.calls kj10 _ _ t205 _ _ t198 true _ ?side1 ?side2 ?side3 ?side4 A36.out).mono ?_); (case side1 => exact rD_ HO_11); (case side2 => exact (Kd.R_reads' HO_11.out).2.1); (case side3 => exact rD_ HO_8); (case side4 => exact (Kd.R_reads' HO_8.out).2.1); rintro e w' ⟨rfl, ⟨nd, rfl⟩⟩))
         go_meet
         case rel => exact ⟨_, ((t206 != t199)), (by first | rfl | (simp; done) | (simp [*]; done)), H', ⟨by have := HJ10.out; first | omega | exact Nat.le_refl _⟩, ⟨by (with_reducible repeat (first | apply Kd.R_alloc | apply Kd.R_drewN | apply Kd.R_drew)); exact HO_8.out⟩, ⟨by (with_reducible repeat (first | apply Kd.R_alloc | apply Kd.R_drewN | apply Kd.R_drew)); exact HO_11.out⟩, ⟨by repeat (first | (with_reducible first | exact HB.out | apply below_alloc | apply pw_below_drewN | apply below_drew1) | exact HB.out)⟩⟩
        ·replace c37 := Bool.eq_false_iff.mpr c37
         subst c37
         have H1 : (laws_FnExactDeal.j1 kj10 l0 a1 a2 t198 t199 t205 true) = some true := by rw [if_neg (show ¬ (false = true) by decide)] at H; exact H
         clear H; have H := H1; clear H1; have H' := Aside0.mk H; clear H
         obtain ⟨Ao40, co40, eo40⟩ := Kd.R_slice HO_11.out
         subst eo40
         obtain ⟨Ao41, co41, eo41⟩ := Kd.R_slice HO_8.out
         subst eo41
         go_wp2_with (first | (go_at_call 8; (with_reducible refine (laws_eqInt64S.calls kj10 _ _ t205 _ _ t198 false _ ?side1 ?side2 ?side3 ?side4 A36.out).mono ?_); (case side1 => exact rD_ HO_11); (case side2 => exact (Kd.R_reads' HO_11.out).2.1); (case side3 => exact rD_ HO_8); (case side4 => exact (Kd.R_reads' HO_8.out).2.1); rintro e w' ⟨rfl, ⟨nd, rfl⟩⟩))
         go_meet
         case rel => exact ⟨_, (true), (by first | rfl | (simp; done) | (simp [*]; done)), H', ⟨by have := HJ10.out; first | omega | exact Nat.le_refl _⟩, ⟨by (with_reducible repeat (first | apply Kd.R_alloc | apply Kd.R_drewN | apply Kd.R_drew)); exact HO_8.out⟩, ⟨by (with_reducible repeat (first | apply Kd.R_alloc | apply Kd.R_drewN | apply Kd.R_drew)); exact HO_11.out⟩, ⟨by repeat (first | (with_reducible first | exact HB.out | apply below_alloc | apply pw_below_drewN | apply below_drew1) | exact HB.out)⟩⟩
      case rest =>
       clear HC30; (try clear c1); (try clear c2); (try clear p2); (try clear c3); (try clear c4); (try clear c5); (try clear c5b0); (try clear c6); (try clear c7); (try clear c8); (try clear c9); (try clear c10); (try clear c20); (try clear c25); (try clear c28); (try clear c35); (try clear c35b0); (try clear c37); (try clear p2)
       obtain ⟨kq, x69_29, rfl, HA, HJ29, HO_8, HO_11, HB⟩ := hcut
       cases kq with
       | zero => exact absurd HA.out (by simp [laws_FnExactDeal.j1])
       | succ kj29 =>
        have H := HA.out; clear HA
        simp only [laws_FnExactDeal.j1] at H
        by_cases c42 : x69_29 = true
        ·subst c42
         have H1 : (some false) = some true := by rw [if_pos rfl] at H; exact H
         clear H; have H := H1; clear H1
         exact absurd H (by simp)
        ·replace c42 := Bool.eq_false_iff.mpr c42
         subst c42
         have H1 : ((laws_markInt64S.f kj29 t205 1).bind fun bt217 => ((laws_heldInt64S.f kj29 bt217.2 1).bind fun t219 => (if t219 < 0 then (some false) else (if t219 = bt217.1 then ((laws_toEntryS.f kj29 l0).bind fun t220 => ((impl_Deal.f kj29 t220 a1 a2).bind fun bt223 => ((laws_eqInt64S.f kj29 bt223.1 t198).bind fun t227 => (if t227 = true then (laws_FnExactDeal.j2 kj29 bt217.2 bt217.1 (bt223.2 != t199)) else (laws_FnExactDeal.j2 kj29 bt217.2 bt217.1 true))))) else (some false))))) = some true := by rw [if_neg (show ¬ (false = true) by decide)] at H; exact H
         clear H; have H := H1; clear H1; replace H := Option.bind_eq_some_iff.mp H
         obtain ⟨⟨t217, t218⟩, A430, H⟩ := H
         replace H : ((laws_heldInt64S.f kj29 t218 1).bind fun t219 => (if t219 < 0 then (some false) else (if t219 = t217 then ((laws_toEntryS.f kj29 l0).bind fun t220 => ((impl_Deal.f kj29 t220 a1 a2).bind fun bt223 => ((laws_eqInt64S.f kj29 bt223.1 t198).bind fun t227 => (if t227 = true then (laws_FnExactDeal.j2 kj29 t218 t217 (bt223.2 != t199)) else (laws_FnExactDeal.j2 kj29 t218 t217 true))))) else (some false)))) = some true := H
         have A43 := Aside0.mk A430; clear A430; replace H := Option.bind_eq_some_iff.mp H
         obtain ⟨t219, A440, H⟩ := H
         replace H : (if t219 < 0 then (some false) else (if t219 = t217 then ((laws_toEntryS.f kj29 l0).bind fun t220 => ((impl_Deal.f kj29 t220 a1 a2).bind fun bt223 => ((laws_eqInt64S.f kj29 bt223.1 t198).bind fun t227 => (if t227 = true then (laws_FnExactDeal.j2 kj29 t218 t217 (bt223.2 != t199)) else (laws_FnExactDeal.j2 kj29 t218 t217 true))))) else (some false))) = some true := H
         have A44 := Aside0.mk A440; clear A440
         by_cases c45 : t219 < 0
         ·rw [if_pos c45] at H
          have c45b0 : decide (t219 < 0) = true := decide_eq_true c45
          clear c45
          exact absurd H (by simp)
         ·rw [if_neg c45] at H
          have c45b0 : decide (t219 < 0) = false := decide_eq_false c45
          clear c45
          by_cases c46 : t219 = t217
          ·rw [if_pos c46] at H
           have c46b0 : (t219 == t217) = true := beq_iff_eq.mpr c46
           have c46b1 : (t219 != t217) = false := bne_eq_false_iff_eq.mpr c46
           clear c46; replace H := Option.bind_eq_some_iff.mp H
           obtain ⟨t220, A470, H⟩ := H
           replace H : ((impl_Deal.f kj29 t220 a1 a2).bind fun bt223 => ((laws_eqInt64S.f kj29 bt223.1 t198).bind fun t227 => (if t227 = true then (laws_FnExactDeal.j2 kj29 t218 t217 (bt223.2 != t199)) else (laws_FnExactDeal.j2 kj29 t218 t217 true)))) = some true := H
           have A47 := Aside0.mk A470; clear A470; replace H := Option.bind_eq_some_iff.mp H
           obtain ⟨⟨t223, t224⟩, A480, H⟩ := H
           replace H : ((laws_eqInt64S.f kj29 t223 t198).bind fun t227 => (if t227 = true then (laws_FnExactDeal.j2 kj29 t218 t217 (t224 != t199)) else (laws_FnExactDeal.j2 kj29 t218 t217 true))) = some true := H
           have A48 := Aside0.mk A480; clear A480; have HC49 := Aside0.mk H; clear H
           obtain ⟨Ao50, co50, eo50⟩ := Kd.R_slice HO_11.out
           subst eo50
           go_upto_region 25 with (first | ((with_reducible refine gate_callee (f := 11) rfl ?_); refine gL_ (some 72) Try.func11 #[.slice Ao50 t205.length co50, .int .i64 1] ?_; (with_reducible refine (laws_markInt64S.calls kj29 (fun k_ => some k_ = (.slice Ao50 t205.length co50 : Value).ownBlock) (.slice Ao50 t205.length co50) t205 1 t217 t218 w _ ?side1 ?side2 A43.out).mono ?_); (case side1 => repeat (first | (with_reducible first | exact HB.out | apply below_alloc | apply pw_below_drewN | apply below_drew1) | exact HB.out)); (case side2 => exact Kd.R_tight rfl (rT_ HO_11)); rintro e w51 ⟨rfl, hy0, hb, hkp⟩; refine ⟨_, rfl, ?_⟩; replace HO_8 := Aside0.mk (Kd.R_mono (ok' := fun k_ => some k_ ≠ (.slice Ao50 t205.length co50 : Value).ownBlock) (Kd.R_keptB (rT_ HO_8) hkp (fun k_ hk_ hs_ => (hk_) hs_)) (fun k_ hk_ => hk_.1)); replace HO_11 := Aside0.mk (Kd.R_reok rfl hy0 (fun k_ e_ => HO_11.out.1 k_ e_)); replace HB := Aside0.mk (hb); (try clear hb); (try clear hkp); (try clear hy0)) | ((with_reducible refine gate_callee (f := 12) rfl ?_); refine goesL_ (some 75) rfl rfl Try.func12 (by kernel_rfl) rfl #[.slice Ao50 t218.length co50, .int .i64 1] rfl (by (try simp only [List.map_toArray, List.map_cons, List.map_nil]); first | done | (rw [show t218.length = t205.length from (Kd.R_reads' HO_11.out).1.symm] <;> rfl) | rfl | (simp only [List.length_drop, List.length_take]; rfl)) ?_; (with_reducible refine (laws_heldInt64S.calls kj29 _ _ t218 1 t219 _ ?side1 ?side2 A44.out).mono ?_); (case side1 => exact rD_ HO_11); (case side2 => rw [show t218.length = t205.length from (Kd.R_reads' HO_11.out).1.symm]; exact (Kd.R_reads' HO_11.out).2.1); rintro e w' ⟨rfl, ⟨nd, rfl⟩⟩; refine ⟨_, rfl, ?_⟩) | ((with_reducible refine gate_callee (f := 6) rfl ?_); refine gL_ (some 83) Try.func6 #[.slice A0 l0.length c0] ?_; (with_reducible refine (laws_toEntryS.calls kj29 _ _ l0 t220 _ ?side1 ?side2 A47.out).mono ?_); (case side1 => repeat (first | exact (Kd.C_below HR0.out (by repeat (first | (with_reducible first | exact HB.out | apply below_alloc | apply pw_below_drewN | apply below_drew1) | exact HB.out))) | (with_reducible refine Kd.C_alloc ?_ _) | (with_reducible refine Kd.C_drewN ?_ _) | (with_reducible refine Kd.C_drew ?_))); (case side2 => exact HC0.out); rintro e w52 ⟨v221, rfl, ho0, hb⟩; refine ⟨_, rfl, ?_⟩; replace HO_8 := rB_ HO_8 hb; replace HO_11 := rB_ HO_11 hb; have HO222 := rL_ ho0 HB; replace HB := bS_ HB hb; (try clear hb); (try clear hb2); (try clear hk); (try clear hi); (try clear ho0); obtain ⟨Ao53, co53, eo53⟩ := Kd.R_slice HO222.out; subst eo53) | ((with_reducible refine gate_callee (f := 7) rfl ?_); refine gL_ (some 86) Try.func7 #[.slice Ao53 t220.length co53, .int .i64 a1, .int .i64 a2] ?_; (with_reducible refine (impl_Deal.calls kj29 _ _ t220 a1 a2 t223 t224 _ ?side1 ?side2 A48.out).mono ?_); (case side1 => exact rD_ HO222); (case side2 => exact (Kd.R_reads' HO222.out).2.1); rintro e w54 ⟨v225, rfl, ho0, hb⟩; refine ⟨_, rfl, ?_⟩; replace HO222 := rB_ HO222 hb; have HO226 := rL_ (rN_ (rN_ ho0 HO_8) HO_11) HB; replace HO_8 := rE_ HO_8 ho0 hb; replace HO_11 := rE_ HO_11 ho0 hb; replace HB := bS_ HB hb; (try clear hb); (try clear hb2); (try clear hk); (try clear hi); (try clear ho0)))
           (try simp only [Act.put, List.setIfInBounds_toArray, List.set_cons_zero, List.set_cons_succ])
           go_cut [97] (fun v97 wc => ∃ (kq : Nat) (x97_48 : Bool), v97 = .bool x97_48 ∧ Aside0 (laws_FnExactDeal.j2 kq t218 t217 x97_48 = some true) ∧ Aside0 (kq ≤ kj29) ∧ Aside0 (Kd.R (Kd.int .i64) 2 wc w.heap.size (fun _ => True) (.slice Ao50 t205.length co50) t218) ∧ Aside0 (Below w.heap.size w wc))
           case first =>
            have H := HC49.out; clear HC49; replace H := Option.bind_eq_some_iff.mp H
            obtain ⟨t227, A550, H⟩ := H
            replace H : (if t227 = true then (laws_FnExactDeal.j2 kj29 t218 t217 (t224 != t199)) else (laws_FnExactDeal.j2 kj29 t218 t217 true)) = some true := H
            have A55 := Aside0.mk A550; clear A550
            by_cases c56 : t227 = true
            ·subst c56
             have H1 : (laws_FnExactDeal.j2 kj29 t218 t217 (t224 != t199)) = some true := by rw [if_pos rfl] at H; exact H
             clear H; have H := H1; clear H1; have H' := Aside0.mk H; clear H
             obtain ⟨Ao57, co57, eo57⟩ := Kd.R_slice HO226.out
             subst eo57
             obtain ⟨Ao58, co58, eo58⟩ := Kd.R_slice HO_8.out
             subst eo58
             go_wp2_with (first | ((with_reducible refine gate_callee (f := 8) rfl ?_); refine gL_ (some 91) Try.func8 #[.slice Ao57 t223.length co57, .slice Ao58 t198.length co58] ?_; (with_reducible refine (laws_eqInt64S.calls kj29 _ _ t223 _ _ t198 true _ ?side1 ?side2 ?side3 ?side4 A55.out).mono ?_); (case side1 => exact rD_ HO226); (case side2 => exact (Kd.R_reads' HO226.out).2.1); (case side3 => exact rD_ HO_8); (case side4 => exact (Kd.R_reads' HO_8.out).2.1); rintro e w' ⟨rfl, ⟨nd, rfl⟩⟩; refine ⟨_, rfl, ?_⟩))
             go_meet
             case rel => exact ⟨_, ((t224 != t199)), (by first | rfl | (simp; done) | (simp [*]; done)), H', ⟨by have := HJ10.out; have := HJ29.out; first | omega | exact Nat.le_refl _⟩, ⟨by (with_reducible repeat (first | apply Kd.R_alloc | apply Kd.R_drewN | apply Kd.R_drew)); exact Kd.R_mono HO_11.out (fun _ hk => trivial)⟩, ⟨by repeat (first | (with_reducible first | exact HB.out | apply below_alloc | apply pw_below_drewN | apply below_drew1) | exact HB.out)⟩⟩
            ·replace c56 := Bool.eq_false_iff.mpr c56
             subst c56
             have H1 : (laws_FnExactDeal.j2 kj29 t218 t217 true) = some true := by rw [if_neg (show ¬ (false = true) by decide)] at H; exact H
             clear H; have H := H1; clear H1; have H' := Aside0.mk H; clear H
             obtain ⟨Ao59, co59, eo59⟩ := Kd.R_slice HO226.out
             subst eo59
             obtain ⟨Ao60, co60, eo60⟩ := Kd.R_slice HO_8.out
             subst eo60
             go_wp2_with (first | ((with_reducible refine gate_callee (f := 8) rfl ?_); refine gL_ (some 91) Try.func8 #[.slice Ao59 t223.length co59, .slice Ao60 t198.length co60] ?_; (with_reducible refine (laws_eqInt64S.calls kj29 _ _ t223 _ _ t198 false _ ?side1 ?side2 ?side3 ?side4 A55.out).mono ?_); (case side1 => exact rD_ HO226); (case side2 => exact (Kd.R_reads' HO226.out).2.1); (case side3 => exact rD_ HO_8); (case side4 => exact (Kd.R_reads' HO_8.out).2.1); rintro e w' ⟨rfl, ⟨nd, rfl⟩⟩; refine ⟨_, rfl, ?_⟩))
             go_meet
             case rel => exact ⟨_, (true), (by first | rfl | (simp; done) | (simp [*]; done)), H', ⟨by have := HJ10.out; have := HJ29.out; first | omega | exact Nat.le_refl _⟩, ⟨by (with_reducible repeat (first | apply Kd.R_alloc | apply Kd.R_drewN | apply Kd.R_drew)); exact Kd.R_mono HO_11.out (fun _ hk => trivial)⟩, ⟨by repeat (first | (with_reducible first | exact HB.out | apply below_alloc | apply pw_below_drewN | apply below_drew1) | exact HB.out)⟩⟩
           case rest =>
            clear HC49; (try clear c1); (try clear c2); (try clear p2); (try clear c3); (try clear c4); (try clear c5); (try clear c5b0); (try clear c6); (try clear c7); (try clear c8); (try clear c9); (try clear c10); (try clear c11); (try clear c12); (try clear c20); (try clear c25); (try clear c28); (try clear c35); (try clear c35b0); (try clear c37); (try clear c42); (try clear c45); (try clear c45b0); (try clear c46); (try clear c46b0); (try clear c46b1); (try clear c56); (try clear p2)
            obtain ⟨kq, x97_48, rfl, HA, HJ48, HO_11, HB⟩ := hcut
            have hl11_48 := (Kd.R_reads' HO_11.out).1
            rw [hl11_48] at HO_11
            (try simp only [hl11_48])
            cases kq with
            | zero => exact absurd HA.out (by simp [laws_FnExactDeal.j2])
            | succ kj48 =>
             have H := HA.out; clear HA
             simp only [laws_FnExactDeal.j2] at H
             by_cases c61 : x97_48 = true
             ·subst c61
              have H1 : (some false) = some true := by rw [if_pos rfl] at H; exact H
              clear H; have H := H1; clear H1
              exact absurd H (by simp)
             ·replace c61 := Bool.eq_false_iff.mpr c61
              subst c61
              have H1 : ((laws_heldInt64S.f kj48 t218 1).bind fun t228 => (if t228 < 0 then (some false) else (if t228 = t217 then (some true) else (some false)))) = some true := by rw [if_neg (show ¬ (false = true) by decide)] at H; exact H
              clear H; have H := H1; clear H1; replace H := Option.bind_eq_some_iff.mp H
              obtain ⟨t228, A620, H⟩ := H
              replace H : (if t228 < 0 then (some false) else (if t228 = t217 then (some true) else (some false))) = some true := H
              have A62 := Aside0.mk A620; clear A620
              by_cases c63 : t228 < 0
              ·rw [if_pos c63] at H
               have c63b0 : decide (t228 < 0) = true := decide_eq_true c63
               clear c63
               exact absurd H (by simp)
              ·rw [if_neg c63] at H
               have c63b0 : decide (t228 < 0) = false := decide_eq_false c63
               clear c63
               by_cases c64 : t228 = t217
               ·rw [if_pos c64] at H
                have c64b0 : (t228 == t217) = true := beq_iff_eq.mpr c64
                have c64b1 : (t228 != t217) = false := bne_eq_false_iff_eq.mpr c64
                clear c64 H
                go_wp2_with (first | ((with_reducible refine gate_callee (f := 12) rfl ?_); refine gL_ (some 100) Try.func12 #[.slice Ao50 t218.length co50, .int .i64 1] ?_; (with_reducible refine (laws_heldInt64S.calls kj48 _ _ t218 1 t228 _ ?side1 ?side2 A62.out).mono ?_); (case side1 => exact rD_ HO_11); (case side2 => exact (Kd.R_reads' HO_11.out).2.1); rintro e w' ⟨rfl, ⟨nd, rfl⟩⟩; refine ⟨_, rfl, ?_⟩))
                go_ret
                exact ⟨by first | rfl | (simp [errW_none, errW_some] <;> rfl) | (simp [*, errW_none, errW_some] <;> rfl), by repeat (first | (with_reducible first | exact HB.out | apply below_alloc | apply pw_below_drewN | apply below_drew1) | exact HB.out)⟩
               ·rw [if_neg c64] at H
                have c64b0 : (t228 == t217) = false := beq_eq_false_iff_ne.mpr c64
                have c64b1 : (t228 != t217) = true := bne_iff_ne.mpr c64
                exact absurd H (by simp)
          ·rw [if_neg c46] at H
           have c46b0 : (t219 == t217) = false := beq_eq_false_iff_ne.mpr c46
           have c46b1 : (t219 != t217) = true := bne_iff_ne.mpr c46
           exact absurd H (by simp)
     ·replace c28 := Bool.eq_false_iff.mpr c28
      subst c28
      have H1 : (some false) = some true := by rw [if_neg (show ¬ (false = true) by decide)] at H; exact H
      clear H; have H := H1; clear H1
      exact absurd H (by simp)

end Go.Proofs.Ytobiblhmchoilaa.QFnExactDeal
