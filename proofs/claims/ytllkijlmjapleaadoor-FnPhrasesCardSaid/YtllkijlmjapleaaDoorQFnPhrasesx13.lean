-- Written by a program of this session out of the printer's texts and contracts of its own.
import Derived.Test.YtllkijlmjapleaaDoorSq
import Derived.Test.YtllkijlmjapleaaDoorQFnPhrasesx0
import Derived.Test.YtllkijlmjapleaaDoorQFnPhrasesx1
import Derived.Test.YtllkijlmjapleaaDoorQFnPhrasesx4
import Derived.Test.YtllkijlmjapleaaDoorQFnPhrasesx6
import Derived.Test.YtllkijlmjapleaaDoorQFnPhrasesx7
import Derived.Test.YtllkijlmjapleaaDoorQFnPhrasesx9
import Derived.Test.YtllkijlmjapleaaDoorQFnPhrasesx10
import Derived.Test.YtllkijlmjapleaaDoorQFnPhrasesx11
import Derived.Test.YtllkijlmjapleaaDoorQFnPhrasesx12
namespace Go.Proofs.YtllkijlmjapleaaDoor.QFnPhrases
open Go.RowKit Go.Proofs.YtllkijlmjapleaaDoorW.PrintWords Go.Proofs.YtllkijlmjapleaaDoorW.PrintLast Go.Proofs.YtllkijlmjapleaaDoorW.PrintMore Go.Proofs.YtllkijlmjapleaaDoor.Sq
attribute [local go_sem] max2_int min2_int max_two min_two max_three min_three max_four min_four   -- for this text's walks alone
set_option linter.unusedVariables false
set_option linter.unusedSimpArgs false
theorem sABelo_13 {b : Nat} {w W : World} (h : Below b w W := by repeat (first | (with_reducible first | exact Aside0.out (by assumption) | apply below_alloc | apply pw_below_drewN | apply below_drew1 | refine below_set ?_ (Aside0.out (by assumption))) | exact Aside0.out (by assumption))) : Below b w W := h

attribute [local go_sem high] eqA25
/-! ### laws_FnPhrases: function 5 -/
mutual
def laws_FnPhrases.j0 : Nat → List Int → List Int → Bool → Option (Bool)
 | 0, _, _, _ => none
 | k + 1, x0, x1, x24 => if x24 = true then (some true) else ((spec_DrawPhrase.f k x0).bind fun bt356 => ((spec_Phrase.f k bt356.1 bt356.2.1 bt356.2.2.1 bt356.2.2.2.1 bt356.2.2.2.2.1 bt356.2.2.2.2.2).bind fun t363 => ((impl_Phrase.f k bt356.1 bt356.2.1 bt356.2.2.1 bt356.2.2.2.1 bt356.2.2.2.2.1 bt356.2.2.2.2.2).bind fun t364 => (if t364.toList = t363.toList then (if t363.toList = ([] : List UInt8) then (laws_FnPhrases.j1 k x1) else ((impl_ReadPhrase.f k t364 bt356.2.2.2.2.2).bind fun bt365 => ((impl_ReadPhrase.f k t364 (wrap64 ((Int.tmod bt356.2.2.2.2.2 3) + 1))).bind fun bt372 => (if bt365.2.2.2.2.2 = true then (if (!(bt365.1 == bt356.1) || (!(bt365.2.1 == bt356.2.1) || (!(bt365.2.2.1 == bt356.2.2.1) || (!(bt365.2.2.2.1 == bt356.2.2.2.1) || (!(bt365.2.2.2.2.1 == bt356.2.2.2.2.1)))))) = true then (some false) else (if bt372.2.2.2.2.2 = true then (some false) else (laws_FnPhrases.j1 k x1))) else (some false))))) else (some false)))))
def laws_FnPhrases.j1 : Nat → List Int → Option (Bool)
 | 0, _ => none
 | k + 1, x1 => (spec_DrawReadPhrase.f k x1).bind fun bt379 => ((spec_ReadPhrase.f k bt379.1 bt379.2).bind fun bt381 => ((impl_ReadPhrase.f k bt379.1 bt379.2).bind fun bt388 => (if (bt388.2.2.2.2.2 == bt381.2.2.2.2.2) = true then (if bt388.2.2.2.2.2 = true then ((impl_Phrase.f k bt388.1 bt388.2.1 bt388.2.2.1 bt388.2.2.2.1 bt388.2.2.2.2.1 bt379.2).bind fun t395 => (some (t395.toList == bt379.1.toList))) else (some true)) else (some false))))
end
def laws_FnPhrases.f (k : Nat) (l0 : List Int) (l1 : List Int) : Option (Bool) := (laws_big.f l0).bind fun t354 => (if t354 = true then (laws_FnPhrases.j0 k l0 l1 true) else ((laws_big.f l1).bind fun t355 => (laws_FnPhrases.j0 k l0 l1 t355)))
theorem laws_FnPhrases.mono_l : ∀ k, (∀ y0 y1 y2, LeO (laws_FnPhrases.j0 k y0 y1 y2) (laws_FnPhrases.j0 (k + 1) y0 y1 y2)) ∧ (∀ y0, LeO (laws_FnPhrases.j1 k y0) (laws_FnPhrases.j1 (k + 1) y0))
 | 0 => ⟨fun _ _ _ r h => by simp [laws_FnPhrases.j0] at h, fun _ r h => by simp [laws_FnPhrases.j1] at h⟩
 | k + 1 => by
  obtain ⟨ih0, ih1⟩ := laws_FnPhrases.mono_l k
  refine ⟨?_, ?_⟩
  intro y0 y1 y2; unfold laws_FnPhrases.j0; rotate_left
  intro y0; unfold laws_FnPhrases.j1; rotate_left
  all_goals repeat' first
  | (with_reducible exact ih0 _ _ _)
  | (with_reducible exact ih1 _)
  | (with_reducible exact impl_Phrase.mono _ _ _ _ _ _ _)
  | (with_reducible exact impl_ReadPhrase.mono _ _ _)
  | (with_reducible exact spec_DrawPhrase.mono _ _)
  | (with_reducible exact spec_DrawReadPhrase.mono _ _)
  | (with_reducible exact spec_Phrase.mono _ _ _ _ _ _ _)
  | (with_reducible exact spec_ReadPhrase.mono _ _ _)
  | (with_reducible exact LeO.refl _)
  | (with_reducible exact LeO.none _)
  | (with_reducible refine LeO.ite ?_ ?_)
  | (with_reducible refine LeO.bind ?_ (fun _ => ?_))
  | exact ih0 _ _ _
  | exact ih1 _
  | exact impl_Phrase.mono _ _ _ _ _ _ _
  | exact impl_ReadPhrase.mono _ _ _
  | exact spec_DrawPhrase.mono _ _
  | exact spec_DrawReadPhrase.mono _ _
  | exact spec_Phrase.mono _ _ _ _ _ _ _
  | exact spec_ReadPhrase.mono _ _ _
  | exact LeO.none _
  | refine LeO.ite ?_ ?_
  | refine LeO.bind ?_ (fun _ => ?_)
theorem laws_FnPhrases.mono : ∀ a0 a1 k, LeO (laws_FnPhrases.f k a0 a1) (laws_FnPhrases.f (k + 1) a0 a1) := by
 intro a0 a1 k
 obtain ⟨ih0, ih1⟩ := laws_FnPhrases.mono_l k
 unfold laws_FnPhrases.f
 repeat' first
   | (with_reducible exact ih0 _ _ _)
   | (with_reducible exact ih1 _)
   | (with_reducible exact impl_Phrase.mono _ _ _ _ _ _ _)
   | (with_reducible exact impl_ReadPhrase.mono _ _ _)
   | (with_reducible exact spec_DrawPhrase.mono _ _)
   | (with_reducible exact spec_DrawReadPhrase.mono _ _)
   | (with_reducible exact spec_Phrase.mono _ _ _ _ _ _ _)
   | (with_reducible exact spec_ReadPhrase.mono _ _ _)
   | (with_reducible exact LeO.refl _)
   | (with_reducible exact LeO.none _)
   | (with_reducible refine LeO.ite ?_ ?_)
   | (with_reducible refine LeO.bind ?_ (fun _ => ?_))
   | exact ih0 _ _ _
   | exact ih1 _
   | exact impl_Phrase.mono _ _ _ _ _ _ _
   | exact impl_ReadPhrase.mono _ _ _
   | exact spec_DrawPhrase.mono _ _
   | exact spec_DrawReadPhrase.mono _ _
   | exact spec_Phrase.mono _ _ _ _ _ _ _
   | exact spec_ReadPhrase.mono _ _ _
   | exact LeO.none _
   | refine LeO.ite ?_ ?_
   | refine LeO.bind ?_ (fun _ => ?_)
set_option maxHeartbeats 8000000 in
set_option maxRecDepth 100000 in
theorem laws_FnPhrases.calls (k : Nat) (A0 : Option Addr) (c0 : Nat) (l0 : List Int) (A1 : Option Addr) (c1 : Nat) (l1 : List Int) (r : Bool) (w : World) (hr0 : Kd.C (Kd.int .u8) w A0 l0.length l0) (hc0 : l0.length ≤ c0) (hr1 : Kd.C (Kd.int .u8) w A1 l1.length l1) (hc1 : l1.length ≤ c1) (h : laws_FnPhrases.f k l0 l1 = some r) (hT : Lib.TabIs Tryd.prog w "internal/strconv.uint64pow10" .u64 Lib.pow10Tab) (hG : TongIs w) :
  Calls Tryd.prog 5 #[.slice A0 l0.length c0, .slice A1 l1.length c1] w fun e w' => e = .returned (.bool r) ∧ Below w.heap.size w w' := by
 have HGb := Aside0.mk hG; clear hG
 have HTb := Aside0.mk hT; clear hT; have hu25 := Tryd.underlying25; have HR0 := Aside0.mk hr0; have HC0 := Aside0.mk hc0; clear hr0 hc0; have HR1 := Aside0.mk hr1; have HC1 := Aside0.mk hc1; clear hr1 hc1
 have HB := Aside0.mk (Below.refl w.heap.size w)
 have H : ((laws_big.f l0).bind fun t354 => (if t354 = true then (laws_FnPhrases.j0 k l0 l1 true) else ((laws_big.f l1).bind fun t355 => (laws_FnPhrases.j0 k l0 l1 t355)))) = some r := h
 clear h; have HC3 := Aside0.mk H; clear H
 go_enter Tryd.func5, Tryd.ntmps5
 go_upto_region 1 with (fail)
 go_cut [24] (fun v24 wc => ∃ (kq : Nat) (x24_2 : Bool), v24 = .bool x24_2 ∧ Aside0 (laws_FnPhrases.j0 kq l0 l1 x24_2 = some r) ∧ Aside0 (kq ≤ k) ∧ Aside0 (Below w.heap.size w wc))
 case first =>
  have H := HC3.out; clear HC3; replace H := Option.bind_eq_some_iff.mp H
  obtain ⟨t354, A40, H⟩ := H
  replace H : (if t354 = true then (laws_FnPhrases.j0 k l0 l1 true) else ((laws_big.f l1).bind fun t355 => (laws_FnPhrases.j0 k l0 l1 t355))) = some r := H
  have A4 := Aside0.mk A40; clear A40
  by_cases c5 : t354 = true
  ·subst c5
   replace H := ifT_ H; have H' := Aside0.mk H; clear H
   go_wp2_with (first | ((with_reducible refine gate_callee (f := 12) rfl ?_); refine gL_ (some 20) Tryd.func12 #[.slice A0 l0.length c0] ?_; (with_reducible refine (laws_big.calls _ _ l0 true _ ?side1 ?side2 A4.out).mono ?_); (case side1 => exact cB_ HR0 HB); (case side2 => exact HC0.out); rintro e w' ⟨rfl, ⟨nd, rfl⟩⟩; refine ⟨_, rfl, ?_⟩))
   go_meet
   case rel => exact ⟨_, (true), (by first | rfl | (simp; done) | (simp [*]; done)), H', ⟨by first | omega | exact Nat.le_refl _⟩, ⟨sABelo_13⟩⟩
  ·replace c5 := Bool.eq_false_iff.mpr c5
   subst c5
   replace H := ifF_ H; replace H := Option.bind_eq_some_iff.mp H
   obtain ⟨t355, A60, H⟩ := H
   replace H : (laws_FnPhrases.j0 k l0 l1 t355) = some r := H
   have A6 := Aside0.mk A60; clear A60; have H' := Aside0.mk H; clear H
   go_wp2_with (first | ((with_reducible refine gate_callee (f := 12) rfl ?_); refine gL_ (some 20) Tryd.func12 #[.slice A0 l0.length c0] ?_; (with_reducible refine (laws_big.calls _ _ l0 false _ ?side1 ?side2 A4.out).mono ?_); (case side1 => exact cB_ HR0 HB); (case side2 => exact HC0.out); rintro e w' ⟨rfl, ⟨nd, rfl⟩⟩; refine ⟨_, rfl, ?_⟩) | (go_at_call 12; (with_reducible refine (laws_big.calls _ _ l1 t355 _ ?side1 ?side2 A6.out).mono ?_); (case side1 => repeat (first | exact (Kd.C_below HR1.out sABelo_13) | (with_reducible refine Kd.C_alloc ?_ _) | (with_reducible refine Kd.C_drewN ?_ _) | (with_reducible refine Kd.C_drew ?_))); (case side2 => exact HC1.out); rintro e w' ⟨rfl, ⟨nd, rfl⟩⟩))
   go_meet
   case rel => exact ⟨_, (t355), (by first | rfl | (simp; done) | (simp [*]; done)), H', ⟨by first | omega | exact Nat.le_refl _⟩, ⟨sABelo_13⟩⟩
 case rest =>
  clear HC3; (try clear c1)
  obtain ⟨kq, x24_2, rfl, HA, HJ2, HB⟩ := hcut
  cases kq with
  | zero => exact absurd HA.out (by simp [laws_FnPhrases.j0])
  | succ kj2 =>
   have H := HA.out; clear HA
   simp only [laws_FnPhrases.j0] at H
   by_cases c7 : x24_2 = true
   ·subst c7
    replace H := ifT_ H
    obtain rfl := Option.some.inj H
    go_wp2
    go_ret
    exact ⟨by first | rfl | (simp [errW_none, errW_some] <;> rfl) | (simp [*, errW_none, errW_some] <;> rfl), sABelo_13⟩
   ·replace c7 := Bool.eq_false_iff.mpr c7
    subst c7
    replace H := ifF_ H; replace H := Option.bind_eq_some_iff.mp H
    obtain ⟨⟨t356, t357, t358, t359, t360, t361⟩, A80, H⟩ := H
    replace H : ((spec_Phrase.f kj2 t356 t357 t358 t359 t360 t361).bind fun t363 => ((impl_Phrase.f kj2 t356 t357 t358 t359 t360 t361).bind fun t364 => (if t364.toList = t363.toList then (if t363.toList = ([] : List UInt8) then (laws_FnPhrases.j1 kj2 l1) else ((impl_ReadPhrase.f kj2 t364 t361).bind fun bt365 => ((impl_ReadPhrase.f kj2 t364 (wrap64 ((Int.tmod t361 3) + 1))).bind fun bt372 => (if bt365.2.2.2.2.2 = true then (if (!(bt365.1 == t356) || (!(bt365.2.1 == t357) || (!(bt365.2.2.1 == t358) || (!(bt365.2.2.2.1 == t359) || (!(bt365.2.2.2.2.1 == t360)))))) = true then (some false) else (if bt372.2.2.2.2.2 = true then (some false) else (laws_FnPhrases.j1 kj2 l1))) else (some false))))) else (some false)))) = some r := H
    have A8 := Aside0.mk A80; clear A80; replace H := Option.bind_eq_some_iff.mp H
    obtain ⟨t363, A90, H⟩ := H
    replace H : ((impl_Phrase.f kj2 t356 t357 t358 t359 t360 t361).bind fun t364 => (if t364.toList = t363.toList then (if t363.toList = ([] : List UInt8) then (laws_FnPhrases.j1 kj2 l1) else ((impl_ReadPhrase.f kj2 t364 t361).bind fun bt365 => ((impl_ReadPhrase.f kj2 t364 (wrap64 ((Int.tmod t361 3) + 1))).bind fun bt372 => (if bt365.2.2.2.2.2 = true then (if (!(bt365.1 == t356) || (!(bt365.2.1 == t357) || (!(bt365.2.2.1 == t358) || (!(bt365.2.2.2.1 == t359) || (!(bt365.2.2.2.2.1 == t360)))))) = true then (some false) else (if bt372.2.2.2.2.2 = true then (some false) else (laws_FnPhrases.j1 kj2 l1))) else (some false))))) else (some false))) = some r := H
    have A9 := Aside0.mk A90; clear A90; replace H := Option.bind_eq_some_iff.mp H
    obtain ⟨t364, A100, H⟩ := H
    replace H : (if t364.toList = t363.toList then (if t363.toList = ([] : List UInt8) then (laws_FnPhrases.j1 kj2 l1) else ((impl_ReadPhrase.f kj2 t364 t361).bind fun bt365 => ((impl_ReadPhrase.f kj2 t364 (wrap64 ((Int.tmod t361 3) + 1))).bind fun bt372 => (if bt365.2.2.2.2.2 = true then (if (!(bt365.1 == t356) || (!(bt365.2.1 == t357) || (!(bt365.2.2.1 == t358) || (!(bt365.2.2.2.1 == t359) || (!(bt365.2.2.2.2.1 == t360)))))) = true then (some false) else (if bt372.2.2.2.2.2 = true then (some false) else (laws_FnPhrases.j1 kj2 l1))) else (some false))))) else (some false)) = some r := H
    have A10 := Aside0.mk A100; clear A100
    by_cases c11 : t364.toList = t363.toList
    ·rw [if_pos c11] at H
     have c11b0 := beq_iff_eq.mpr c11
     have c11b1 := bne_eq_false_iff_eq.mpr c11
     clear c11; have HC12 := Aside0.mk H; clear H
     go_upto_if 40 with (first | ((with_reducible refine gate_callee (f := 13) rfl ?_); refine gL_ (some 27) Tryd.func13 #[.slice A0 l0.length c0] ?_; (with_reducible refine (spec_DrawPhrase.calls kj2 _ _ l0 t356 t357 t358 t359 t360 t361 _ ?side1 ?side2 A8.out).mono ?_); (case side1 => exact cB_ HR0 HB); (case side2 => exact HC0.out); rintro e w13 ⟨rfl, hb⟩; refine ⟨_, rfl, ?_⟩; replace HB := bS_ HB hb; (try clear hb)) | ((with_reducible refine gate_dst (N := 5) rfl ?_); refine box_event ?hg (N := 5) ?hd (cs := #[.int .i64 0, .int .i64 0, .int .i64 0, .int .i64 0, .int .i64 0]) (t := 25) ?hr ?_; (case hd => rfl); (case hg => rfl); (case hr => first | (go_simp; done) | (go_simp; rfl)); intro gb362 hg w14 hbox hb; have BK362 := Aside0.mk (hbox); have GW362 := gE_ HB hg; have GE362 := gE_ HB hg; replace HB := bS_ HB hb; clear hb hbox hg; obtain ⟨hcz15_0, hcz15_1, hcz15_2, hcz15_3, hcz15_4, hfz15_0, hfz15_1, hfz15_2, hfz15_3, hfz15_4⟩ := cf5_ BK362) | ((with_reducible refine gate_callee (f := 6) rfl ?_); refine gL_ (some 32) Tryd.func6 #[.agg #[.int .i64 t356, .int .i64 t357, .int .i64 t358, .int .i64 t359, .int .i64 t360], .int .i64 t361] ?_; (with_reducible refine (spec_Phrase.calls kj2 t356 t357 t358 t359 t360 t361 t363 _ A9.out).mono ?_); rintro e w16 ⟨rfl, hb⟩; refine ⟨_, rfl, ?_⟩; replace BK362 := Aside0.mk (blk_below (g := gb362) (o := .cells #[.int .i64 t356, .int .i64 t357, .int .i64 t358, .int .i64 t359, .int .i64 t360] 25 (0, 0)) (bP_ BK362) hb); replace HB := bSF_ HB GE362 hb; (try clear hb); obtain ⟨hcz17_0, hcz17_1, hcz17_2, hcz17_3, hcz17_4, hfz17_0, hfz17_1, hfz17_2, hfz17_3, hfz17_4⟩ := cf5_ BK362) | ((with_reducible refine gate_callee (f := 8) rfl ?_); refine gL_ (some 35) Tryd.func8 #[.agg #[.int .i64 t356, .int .i64 t357, .int .i64 t358, .int .i64 t359, .int .i64 t360], .int .i64 t361] ?_; (with_reducible refine (impl_Phrase.calls kj2 t356 t357 t358 t359 t360 t361 t364 _ A10.out (tab_on HTb.out sABelo_13) (tong_on HGb.out sABelo_13)).mono ?_); rintro e w18 ⟨rfl, hb⟩; refine ⟨_, rfl, ?_⟩; replace BK362 := bB_ BK362 hb; replace HB := bS_ HB hb; (try clear hb)))
     (try simp only [Act.put, List.setIfInBounds_toArray, List.set_cons_zero, List.set_cons_succ])
     go_cut [] (fun wc => ∃ (kq : Nat), Aside0 (laws_FnPhrases.j1 kq l1 = some r) ∧ Aside0 (kq ≤ kj2) ∧ Aside0 (wc.heap[gb362]? = some (.cells #[.int .i64 t356, .int .i64 t357, .int .i64 t358, .int .i64 t359, .int .i64 t360] 25 (0, 0))) ∧ Aside0 (Below w.heap.size w wc))
     case first =>
      have H := HC12.out; clear HC12
      by_cases c19 : t363.toList = ([] : List UInt8)
      ·rw [if_pos c19] at H
       have c19b0 := beq_iff_eq.mpr c19
       have c19b1 := bne_eq_false_iff_eq.mpr c19
       have c19b2 : t363.toList.isEmpty = true := by simpa using c19
       have c19b2 : t363.toList.isEmpty = true := by simpa using c19
       clear c19
       (first | rw [c19b0] | (simp only [i64_w, i32_w]; rw [c19b0]) | skip)
       (try simp only [c19b2, Bool.not_true, Bool.not_false])
       have H' := Aside0.mk H; clear H
       go_wp2
       go_meet
       case rel => exact ⟨_, H', ⟨by have := HJ2.out; first | omega | exact Nat.le_refl _⟩, ⟨bT_ BK362⟩, ⟨sABelo_13⟩⟩
      ·rw [if_neg c19] at H
       have c19b0 := beq_eq_false_iff_ne.mpr c19
       have c19b1 := bne_iff_ne.mpr c19
       have c19b2 : t363.toList.isEmpty = false := by simpa using c19
       have c19b2 : t363.toList.isEmpty = false := by simpa using c19
       (first | rw [c19b0] | (simp only [i64_w, i32_w]; rw [c19b0]) | skip)
       (try simp only [c19b2, Bool.not_true, Bool.not_false])
       replace H := Option.bind_eq_some_iff.mp H
       obtain ⟨⟨t365, t366, t367, t368, t369, t370⟩, A200, H⟩ := H
       replace H : ((impl_ReadPhrase.f kj2 t364 (wrap64 ((Int.tmod t361 3) + 1))).bind fun bt372 => (if t370 = true then (if (!(t365 == t356) || (!(t366 == t357) || (!(t367 == t358) || (!(t368 == t359) || (!(t369 == t360)))))) = true then (some false) else (if bt372.2.2.2.2.2 = true then (some false) else (laws_FnPhrases.j1 kj2 l1))) else (some false))) = some r := H
       have A20 := Aside0.mk A200; clear A200; replace H := Option.bind_eq_some_iff.mp H
       obtain ⟨⟨t372, t373, t374, t375, t376, t377⟩, A210, H⟩ := H
       replace H : (if t370 = true then (if (!(t365 == t356) || (!(t366 == t357) || (!(t367 == t358) || (!(t368 == t359) || (!(t369 == t360)))))) = true then (some false) else (if t377 = true then (some false) else (laws_FnPhrases.j1 kj2 l1))) else (some false)) = some r := H
       have A21 := Aside0.mk A210; clear A210
       by_cases c22 : t370 = true
       ·subst c22
        replace H := ifT_ H
        by_cases c23 : (!(t365 == t356) || (!(t366 == t357) || (!(t367 == t358) || (!(t368 == t359) || (!(t369 == t360)))))) = true
        ·rw [if_pos c23] at H
         have c23b0 : (!(t365 == t356) || (!(t366 == t357) || (!(t367 == t358) || (!(t368 == t359) || (!(t369 == t360)))))) = true := c23
         clear c23
         obtain rfl := Option.some.inj H
         go_wp2_with (first | ((with_reducible refine gate_callee (f := 10) rfl ?_); refine gL_ (some 44) Tryd.func10 #[.string t364, .int .i64 t361] ?_; (with_reducible refine (impl_ReadPhrase.calls kj2 t364 t361 t365 t366 t367 t368 t369 true _ A20.out (tab_on HTb.out sABelo_13) (tong_on HGb.out sABelo_13)).mono ?_); rintro e w24 ⟨rfl, hb⟩; refine ⟨_, rfl, ?_⟩; replace BK362 := bB_ BK362 hb; replace HB := bS_ HB hb; (try clear hb)) | ((with_reducible refine gate_dst (N := 9) rfl ?_); refine box_event ?hg (N := 9) ?hd (cs := #[.int .i64 0, .int .i64 0, .int .i64 0, .int .i64 0, .int .i64 0]) (t := 25) ?hr ?_; (case hd => rfl); (case hg => rfl); (case hr => first | (go_simp; done) | (go_simp; rfl)); intro gb371 hg w25 hbox hb; have BK371 := Aside0.mk (hbox); have GW371 := gE_ HB hg; have GE371 := gE_ HB hg; replace HB := bS_ HB hb; have NB362_371 := nL_ BK362 hg; have NB371_362 := nG_ BK362 hg; replace BK362 := bB_ BK362 hb; clear hb hbox hg; have hnb26 := NB371_362.out; have hnc26 := NB362_371.out; obtain ⟨hcz27_0, hcz27_1, hcz27_2, hcz27_3, hcz27_4, hfz27_0, hfz27_1, hfz27_2, hfz27_3, hfz27_4⟩ := cf5_ BK371) | ((with_reducible refine gate_callee (f := 10) rfl ?_); refine gL_ (some 52) Tryd.func10 #[.string t364, .int .i64 (wrap64 ((Int.tmod t361 3) + 1))] ?_; (with_reducible refine (impl_ReadPhrase.calls kj2 t364 (wrap64 ((Int.tmod t361 3) + 1)) t372 t373 t374 t375 t376 t377 _ A21.out (tab_on HTb.out sABelo_13) (tong_on HGb.out sABelo_13)).mono ?_); rintro e w28 ⟨rfl, hb⟩; refine ⟨_, rfl, ?_⟩; replace BK362 := bBF_ BK362 NB362_371 hb; replace BK371 := Aside0.mk (blk_below (g := gb371) (o := .cells #[.int .i64 t365, .int .i64 t366, .int .i64 t367, .int .i64 t368, .int .i64 t369] 25 (0, 0)) (bP_ BK371) hb); replace HB := bSF_ HB GE371 hb; (try clear hb)) | ((with_reducible refine gate_dst (N := 11) rfl ?_); refine box_event ?hg (N := 11) ?hd (cs := #[.int .i64 0, .int .i64 0, .int .i64 0, .int .i64 0, .int .i64 0]) (t := 25) ?hr ?_; (case hd => rfl); (case hg => rfl); (case hr => first | (go_simp; done) | (go_simp; rfl)); intro gb378 hg w29 hbox hb; have BK378 := Aside0.mk (hbox); have GW378 := gE_ HB hg; have GE378 := gE_ HB hg; replace HB := bS_ HB hb; have NB362_378 := nL_ BK362 hg; have NB378_362 := nG_ BK362 hg; replace BK362 := bB_ BK362 hb; have NB371_378 := nL_ BK371 hg; have NB378_371 := nG_ BK371 hg; replace BK371 := bB_ BK371 hb; clear hb hbox hg; have hnb30 := NB378_362.out; have hnc30 := NB362_378.out; have hnb31 := NB378_371.out; have hnc31 := NB371_378.out; obtain ⟨hcz32_0, hcz32_1, hcz32_2, hcz32_3, hcz32_4, hfz32_0, hfz32_1, hfz32_2, hfz32_3, hfz32_4⟩ := cf5_ BK378; obtain ⟨hcz33_0, hcz33_1, hcz33_2, hcz33_3, hcz33_4, hfz33_0, hfz33_1, hfz33_2, hfz33_3, hfz33_4⟩ := cf5_ BK371; obtain ⟨hcz34_0, hcz34_1, hcz34_2, hcz34_3, hcz34_4, hfz34_0, hfz34_1, hfz34_2, hfz34_3, hfz34_4⟩ := cf5_ BK362))
         go_ret
         exact ⟨by first | rfl | (simp [errW_none, errW_some] <;> rfl) | (simp [*, errW_none, errW_some] <;> rfl), sABelo_13⟩
        ·rw [if_neg c23] at H
         have c23b0 : (!(t365 == t356) || (!(t366 == t357) || (!(t367 == t358) || (!(t368 == t359) || (!(t369 == t360)))))) = false := by simpa using c23
         clear c23
         by_cases c35 : t377 = true
         ·subst c35
          replace H := ifT_ H
          obtain rfl := Option.some.inj H
          go_wp2_with (first | ((with_reducible refine gate_callee (f := 10) rfl ?_); refine gL_ (some 44) Tryd.func10 #[.string t364, .int .i64 t361] ?_; (with_reducible refine (impl_ReadPhrase.calls kj2 t364 t361 t365 t366 t367 t368 t369 true _ A20.out (tab_on HTb.out sABelo_13) (tong_on HGb.out sABelo_13)).mono ?_); rintro e w36 ⟨rfl, hb⟩; refine ⟨_, rfl, ?_⟩; replace BK362 := bB_ BK362 hb; replace HB := bS_ HB hb; (try clear hb)) | ((with_reducible refine gate_dst (N := 9) rfl ?_); refine box_event ?hg (N := 9) ?hd (cs := #[.int .i64 0, .int .i64 0, .int .i64 0, .int .i64 0, .int .i64 0]) (t := 25) ?hr ?_; (case hd => rfl); (case hg => rfl); (case hr => first | (go_simp; done) | (go_simp; rfl)); intro gb371 hg w37 hbox hb; have BK371 := Aside0.mk (hbox); have GW371 := gE_ HB hg; have GE371 := gE_ HB hg; replace HB := bS_ HB hb; have NB362_371 := nL_ BK362 hg; have NB371_362 := nG_ BK362 hg; replace BK362 := bB_ BK362 hb; clear hb hbox hg; have hnb38 := NB371_362.out; have hnc38 := NB362_371.out; obtain ⟨hcz39_0, hcz39_1, hcz39_2, hcz39_3, hcz39_4, hfz39_0, hfz39_1, hfz39_2, hfz39_3, hfz39_4⟩ := cf5_ BK371) | ((with_reducible refine gate_callee (f := 10) rfl ?_); refine gL_ (some 52) Tryd.func10 #[.string t364, .int .i64 (wrap64 ((Int.tmod t361 3) + 1))] ?_; (with_reducible refine (impl_ReadPhrase.calls kj2 t364 (wrap64 ((Int.tmod t361 3) + 1)) t372 t373 t374 t375 t376 true _ A21.out (tab_on HTb.out sABelo_13) (tong_on HGb.out sABelo_13)).mono ?_); rintro e w40 ⟨rfl, hb⟩; refine ⟨_, rfl, ?_⟩; replace BK362 := bBF_ BK362 NB362_371 hb; replace BK371 := Aside0.mk (blk_below (g := gb371) (o := .cells #[.int .i64 t365, .int .i64 t366, .int .i64 t367, .int .i64 t368, .int .i64 t369] 25 (0, 0)) (bP_ BK371) hb); replace HB := bSF_ HB GE371 hb; (try clear hb)) | ((with_reducible refine gate_dst (N := 11) rfl ?_); refine box_event ?hg (N := 11) ?hd (cs := #[.int .i64 0, .int .i64 0, .int .i64 0, .int .i64 0, .int .i64 0]) (t := 25) ?hr ?_; (case hd => rfl); (case hg => rfl); (case hr => first | (go_simp; done) | (go_simp; rfl)); intro gb378 hg w41 hbox hb; have BK378 := Aside0.mk (hbox); have GW378 := gE_ HB hg; have GE378 := gE_ HB hg; replace HB := bS_ HB hb; have NB362_378 := nL_ BK362 hg; have NB378_362 := nG_ BK362 hg; replace BK362 := bB_ BK362 hb; have NB371_378 := nL_ BK371 hg; have NB378_371 := nG_ BK371 hg; replace BK371 := bB_ BK371 hb; clear hb hbox hg; have hnb42 := NB378_362.out; have hnc42 := NB362_378.out; have hnb43 := NB378_371.out; have hnc43 := NB371_378.out; obtain ⟨hcz44_0, hcz44_1, hcz44_2, hcz44_3, hcz44_4, hfz44_0, hfz44_1, hfz44_2, hfz44_3, hfz44_4⟩ := cf5_ BK378; obtain ⟨hcz45_0, hcz45_1, hcz45_2, hcz45_3, hcz45_4, hfz45_0, hfz45_1, hfz45_2, hfz45_3, hfz45_4⟩ := cf5_ BK371; obtain ⟨hcz46_0, hcz46_1, hcz46_2, hcz46_3, hcz46_4, hfz46_0, hfz46_1, hfz46_2, hfz46_3, hfz46_4⟩ := cf5_ BK362))
          go_ret
          exact ⟨by first | rfl | (simp [errW_none, errW_some] <;> rfl) | (simp [*, errW_none, errW_some] <;> rfl), sABelo_13⟩
         ·replace c35 := Bool.eq_false_iff.mpr c35
          subst c35
          replace H := ifF_ H; have H' := Aside0.mk H; clear H
          go_wp2_with (first | ((with_reducible refine gate_callee (f := 10) rfl ?_); refine gL_ (some 44) Tryd.func10 #[.string t364, .int .i64 t361] ?_; (with_reducible refine (impl_ReadPhrase.calls kj2 t364 t361 t365 t366 t367 t368 t369 true _ A20.out (tab_on HTb.out sABelo_13) (tong_on HGb.out sABelo_13)).mono ?_); rintro e w47 ⟨rfl, hb⟩; refine ⟨_, rfl, ?_⟩; replace BK362 := bB_ BK362 hb; replace HB := bS_ HB hb; (try clear hb)) | ((with_reducible refine gate_dst (N := 9) rfl ?_); refine box_event ?hg (N := 9) ?hd (cs := #[.int .i64 0, .int .i64 0, .int .i64 0, .int .i64 0, .int .i64 0]) (t := 25) ?hr ?_; (case hd => rfl); (case hg => rfl); (case hr => first | (go_simp; done) | (go_simp; rfl)); intro gb371 hg w48 hbox hb; have BK371 := Aside0.mk (hbox); have GW371 := gE_ HB hg; have GE371 := gE_ HB hg; replace HB := bS_ HB hb; have NB362_371 := nL_ BK362 hg; have NB371_362 := nG_ BK362 hg; replace BK362 := bB_ BK362 hb; clear hb hbox hg; have hnb49 := NB371_362.out; have hnc49 := NB362_371.out; obtain ⟨hcz50_0, hcz50_1, hcz50_2, hcz50_3, hcz50_4, hfz50_0, hfz50_1, hfz50_2, hfz50_3, hfz50_4⟩ := cf5_ BK371) | ((with_reducible refine gate_callee (f := 10) rfl ?_); refine gL_ (some 52) Tryd.func10 #[.string t364, .int .i64 (wrap64 ((Int.tmod t361 3) + 1))] ?_; (with_reducible refine (impl_ReadPhrase.calls kj2 t364 (wrap64 ((Int.tmod t361 3) + 1)) t372 t373 t374 t375 t376 false _ A21.out (tab_on HTb.out sABelo_13) (tong_on HGb.out sABelo_13)).mono ?_); rintro e w51 ⟨rfl, hb⟩; refine ⟨_, rfl, ?_⟩; replace BK362 := bBF_ BK362 NB362_371 hb; replace BK371 := Aside0.mk (blk_below (g := gb371) (o := .cells #[.int .i64 t365, .int .i64 t366, .int .i64 t367, .int .i64 t368, .int .i64 t369] 25 (0, 0)) (bP_ BK371) hb); replace HB := bSF_ HB GE371 hb; (try clear hb)) | ((with_reducible refine gate_dst (N := 11) rfl ?_); refine box_event ?hg (N := 11) ?hd (cs := #[.int .i64 0, .int .i64 0, .int .i64 0, .int .i64 0, .int .i64 0]) (t := 25) ?hr ?_; (case hd => rfl); (case hg => rfl); (case hr => first | (go_simp; done) | (go_simp; rfl)); intro gb378 hg w52 hbox hb; have BK378 := Aside0.mk (hbox); have GW378 := gE_ HB hg; have GE378 := gE_ HB hg; replace HB := bS_ HB hb; have NB362_378 := nL_ BK362 hg; have NB378_362 := nG_ BK362 hg; replace BK362 := bB_ BK362 hb; have NB371_378 := nL_ BK371 hg; have NB378_371 := nG_ BK371 hg; replace BK371 := bB_ BK371 hb; clear hb hbox hg; have hnb53 := NB378_362.out; have hnc53 := NB362_378.out; have hnb54 := NB378_371.out; have hnc54 := NB371_378.out; obtain ⟨hcz55_0, hcz55_1, hcz55_2, hcz55_3, hcz55_4, hfz55_0, hfz55_1, hfz55_2, hfz55_3, hfz55_4⟩ := cf5_ BK378; obtain ⟨hcz56_0, hcz56_1, hcz56_2, hcz56_3, hcz56_4, hfz56_0, hfz56_1, hfz56_2, hfz56_3, hfz56_4⟩ := cf5_ BK371; obtain ⟨hcz57_0, hcz57_1, hcz57_2, hcz57_3, hcz57_4, hfz57_0, hfz57_1, hfz57_2, hfz57_3, hfz57_4⟩ := cf5_ BK362))
          go_meet
          case rel => exact ⟨_, H', ⟨by have := HJ2.out; first | omega | exact Nat.le_refl _⟩, ⟨bF_ BK362 NB362_378⟩, ⟨sABelo_13⟩⟩
       ·replace c22 := Bool.eq_false_iff.mpr c22
        subst c22
        replace H := ifF_ H
        obtain rfl := Option.some.inj H
        go_wp2_with (first | ((with_reducible refine gate_callee (f := 10) rfl ?_); refine gL_ (some 44) Tryd.func10 #[.string t364, .int .i64 t361] ?_; (with_reducible refine (impl_ReadPhrase.calls kj2 t364 t361 t365 t366 t367 t368 t369 false _ A20.out (tab_on HTb.out sABelo_13) (tong_on HGb.out sABelo_13)).mono ?_); rintro e w58 ⟨rfl, hb⟩; refine ⟨_, rfl, ?_⟩; replace BK362 := bB_ BK362 hb; replace HB := bS_ HB hb; (try clear hb)) | ((with_reducible refine gate_dst (N := 9) rfl ?_); refine box_event ?hg (N := 9) ?hd (cs := #[.int .i64 0, .int .i64 0, .int .i64 0, .int .i64 0, .int .i64 0]) (t := 25) ?hr ?_; (case hd => rfl); (case hg => rfl); (case hr => first | (go_simp; done) | (go_simp; rfl)); intro gb371 hg w59 hbox hb; have BK371 := Aside0.mk (hbox); have GW371 := gE_ HB hg; have GE371 := gE_ HB hg; replace HB := bS_ HB hb; have NB362_371 := nL_ BK362 hg; have NB371_362 := nG_ BK362 hg; replace BK362 := bB_ BK362 hb; clear hb hbox hg; have hnb60 := NB371_362.out; have hnc60 := NB362_371.out; obtain ⟨hcz61_0, hcz61_1, hcz61_2, hcz61_3, hcz61_4, hfz61_0, hfz61_1, hfz61_2, hfz61_3, hfz61_4⟩ := cf5_ BK371) | ((with_reducible refine gate_callee (f := 10) rfl ?_); refine gL_ (some 52) Tryd.func10 #[.string t364, .int .i64 (wrap64 ((Int.tmod t361 3) + 1))] ?_; (with_reducible refine (impl_ReadPhrase.calls kj2 t364 (wrap64 ((Int.tmod t361 3) + 1)) t372 t373 t374 t375 t376 t377 _ A21.out (tab_on HTb.out sABelo_13) (tong_on HGb.out sABelo_13)).mono ?_); rintro e w62 ⟨rfl, hb⟩; refine ⟨_, rfl, ?_⟩; replace BK362 := bBF_ BK362 NB362_371 hb; replace BK371 := Aside0.mk (blk_below (g := gb371) (o := .cells #[.int .i64 t365, .int .i64 t366, .int .i64 t367, .int .i64 t368, .int .i64 t369] 25 (0, 0)) (bP_ BK371) hb); replace HB := bSF_ HB GE371 hb; (try clear hb)) | ((with_reducible refine gate_dst (N := 11) rfl ?_); refine box_event ?hg (N := 11) ?hd (cs := #[.int .i64 0, .int .i64 0, .int .i64 0, .int .i64 0, .int .i64 0]) (t := 25) ?hr ?_; (case hd => rfl); (case hg => rfl); (case hr => first | (go_simp; done) | (go_simp; rfl)); intro gb378 hg w63 hbox hb; have BK378 := Aside0.mk (hbox); have GW378 := gE_ HB hg; have GE378 := gE_ HB hg; replace HB := bS_ HB hb; have NB362_378 := nL_ BK362 hg; have NB378_362 := nG_ BK362 hg; replace BK362 := bB_ BK362 hb; have NB371_378 := nL_ BK371 hg; have NB378_371 := nG_ BK371 hg; replace BK371 := bB_ BK371 hb; clear hb hbox hg; have hnb64 := NB378_362.out; have hnc64 := NB362_378.out; have hnb65 := NB378_371.out; have hnc65 := NB371_378.out; obtain ⟨hcz66_0, hcz66_1, hcz66_2, hcz66_3, hcz66_4, hfz66_0, hfz66_1, hfz66_2, hfz66_3, hfz66_4⟩ := cf5_ BK378))
        go_ret
        exact ⟨by first | rfl | (simp [errW_none, errW_some] <;> rfl) | (simp [*, errW_none, errW_some] <;> rfl), sABelo_13⟩
     case rest =>
      clear HC12; (try clear c1); (try clear c7); (try clear c11); (try clear c11b0); (try clear c11b1); (try clear hcz15_0); (try clear hcz15_1); (try clear hcz15_2); (try clear hcz15_3); (try clear hcz15_4); (try clear hcz17_0); (try clear hcz17_1); (try clear hcz17_2); (try clear hcz17_3); (try clear hcz17_4); (try clear hfz15_0); (try clear hfz15_1); (try clear hfz15_2); (try clear hfz15_3); (try clear hfz15_4); (try clear hfz17_0); (try clear hfz17_1); (try clear hfz17_2); (try clear hfz17_3); (try clear hfz17_4)
      obtain ⟨kq, HA, HJ11, BK362, HB⟩ := hcut
      cases kq with
      | zero => exact absurd HA.out (by simp [laws_FnPhrases.j1])
      | succ kj11 =>
       have H := HA.out; clear HA
       simp only [laws_FnPhrases.j1] at H
       replace H := Option.bind_eq_some_iff.mp H
       obtain ⟨⟨t379, t380⟩, A670, H⟩ := H
       replace H : ((spec_ReadPhrase.f kj11 t379 t380).bind fun bt381 => ((impl_ReadPhrase.f kj11 t379 t380).bind fun bt388 => (if (bt388.2.2.2.2.2 == bt381.2.2.2.2.2) = true then (if bt388.2.2.2.2.2 = true then ((impl_Phrase.f kj11 bt388.1 bt388.2.1 bt388.2.2.1 bt388.2.2.2.1 bt388.2.2.2.2.1 t380).bind fun t395 => (some (t395.toList == t379.toList))) else (some true)) else (some false)))) = some r := H
       have A67 := Aside0.mk A670; clear A670; replace H := Option.bind_eq_some_iff.mp H
       obtain ⟨⟨t381, t382, t383, t384, t385, t386⟩, A680, H⟩ := H
       replace H : ((impl_ReadPhrase.f kj11 t379 t380).bind fun bt388 => (if (bt388.2.2.2.2.2 == t386) = true then (if bt388.2.2.2.2.2 = true then ((impl_Phrase.f kj11 bt388.1 bt388.2.1 bt388.2.2.1 bt388.2.2.2.1 bt388.2.2.2.2.1 t380).bind fun t395 => (some (t395.toList == t379.toList))) else (some true)) else (some false))) = some r := H
       have A68 := Aside0.mk A680; clear A680; replace H := Option.bind_eq_some_iff.mp H
       obtain ⟨⟨t388, t389, t390, t391, t392, t393⟩, A690, H⟩ := H
       replace H : (if (t393 == t386) = true then (if t393 = true then ((impl_Phrase.f kj11 t388 t389 t390 t391 t392 t380).bind fun t395 => (some (t395.toList == t379.toList))) else (some true)) else (some false)) = some r := H
       have A69 := Aside0.mk A690; clear A690
       by_cases c70 : (t393 == t386) = true
       ·rw [if_pos c70] at H
        have c70b0 : (t393 == t386) = true := c70
        (try (have c70b1 : decide (t393 = t386) = true := by simpa using c70))
        (try (have c70b2 : (t393 == t386) = true := by simpa using c70))
        clear c70
        by_cases c71 : t393 = true
        ·subst c71
         replace H := ifT_ H; replace H := Option.bind_eq_some_iff.mp H
         obtain ⟨t395, A720, H⟩ := H
         replace H : (some (t395.toList == t379.toList)) = some r := H
         have A72 := Aside0.mk A720; clear A720
         obtain rfl := Option.some.inj H
         go_wp2_with (first | ((with_reducible refine gate_callee (f := 14) rfl ?_); refine gL_ (some 67) Tryd.func14 #[.slice A1 l1.length c1] ?_; (with_reducible refine (spec_DrawReadPhrase.calls kj11 _ _ l1 t379 t380 _ ?side1 ?side2 A67.out).mono ?_); (case side1 => exact cB_ HR1 HB); (case side2 => exact HC1.out); rintro e w73 ⟨rfl, hb⟩; refine ⟨_, rfl, ?_⟩; replace BK362 := bB_ BK362 hb; replace HB := bS_ HB hb; (try clear hb)) | ((with_reducible refine gate_callee (f := 9) rfl ?_); refine gL_ (some 73) Tryd.func9 #[.string t379, .int .i64 t380] ?_; (with_reducible refine (spec_ReadPhrase.calls kj11 t379 t380 t381 t382 t383 t384 t385 t386 _ A68.out).mono ?_); rintro e w74 ⟨rfl, hb⟩; refine ⟨_, rfl, ?_⟩; replace BK362 := bB_ BK362 hb; replace HB := bS_ HB hb; (try clear hb)) | ((with_reducible refine gate_dst (N := 15) rfl ?_); refine box_event ?hg (N := 15) ?hd (cs := #[.int .i64 0, .int .i64 0, .int .i64 0, .int .i64 0, .int .i64 0]) (t := 25) ?hr ?_; (case hd => rfl); (case hg => rfl); (case hr => first | (go_simp; done) | (go_simp; rfl)); intro gb387 hg w75 hbox hb; have BK387 := Aside0.mk (hbox); have GW387 := gE_ HB hg; have GE387 := gE_ HB hg; replace HB := bS_ HB hb; have NB362_387 := nL_ BK362 hg; have NB387_362 := nG_ BK362 hg; replace BK362 := bB_ BK362 hb; clear hb hbox hg; have hnb76 := NB387_362.out; have hnc76 := NB362_387.out; obtain ⟨hcz77_0, hcz77_1, hcz77_2, hcz77_3, hcz77_4, hfz77_0, hfz77_1, hfz77_2, hfz77_3, hfz77_4⟩ := cf5_ BK387) | ((with_reducible refine gate_callee (f := 10) rfl ?_); refine gL_ (some 79) Tryd.func10 #[.string t379, .int .i64 t380] ?_; (with_reducible refine (impl_ReadPhrase.calls kj11 t379 t380 t388 t389 t390 t391 t392 true _ A69.out (tab_on HTb.out sABelo_13) (tong_on HGb.out sABelo_13)).mono ?_); rintro e w78 ⟨rfl, hb⟩; refine ⟨_, rfl, ?_⟩; replace BK362 := bBF_ BK362 NB362_387 hb; replace BK387 := Aside0.mk (blk_below (g := gb387) (o := .cells #[.int .i64 t381, .int .i64 t382, .int .i64 t383, .int .i64 t384, .int .i64 t385] 25 (0, 0)) (bP_ BK387) hb); replace HB := bSF_ HB GE387 hb; (try clear hb)) | ((with_reducible refine gate_dst (N := 17) rfl ?_); refine box_event ?hg (N := 17) ?hd (cs := #[.int .i64 0, .int .i64 0, .int .i64 0, .int .i64 0, .int .i64 0]) (t := 25) ?hr ?_; (case hd => rfl); (case hg => rfl); (case hr => first | (go_simp; done) | (go_simp; rfl)); intro gb394 hg w79 hbox hb; have BK394 := Aside0.mk (hbox); have GW394 := gE_ HB hg; have GE394 := gE_ HB hg; replace HB := bS_ HB hb; have NB362_394 := nL_ BK362 hg; have NB394_362 := nG_ BK362 hg; replace BK362 := bB_ BK362 hb; have NB387_394 := nL_ BK387 hg; have NB394_387 := nG_ BK387 hg; replace BK387 := bB_ BK387 hb; clear hb hbox hg; have hnb80 := NB394_362.out; have hnc80 := NB362_394.out; have hnb81 := NB394_387.out; have hnc81 := NB387_394.out; obtain ⟨hcz82_0, hcz82_1, hcz82_2, hcz82_3, hcz82_4, hfz82_0, hfz82_1, hfz82_2, hfz82_3, hfz82_4⟩ := cf5_ BK394) | (go_at_call 8; (with_reducible refine (impl_Phrase.calls kj11 t388 t389 t390 t391 t392 t380 t395 _ A72.out (tab_on HTb.out sABelo_13) (tong_on HGb.out sABelo_13)).mono ?_); rintro e w83 ⟨rfl, hb⟩; replace BK362 := bBF_ BK362 NB362_394 hb; replace BK387 := bBF_ BK387 NB387_394 hb; replace BK394 := Aside0.mk (blk_below (g := gb394) (o := .cells #[.int .i64 t388, .int .i64 t389, .int .i64 t390, .int .i64 t391, .int .i64 t392] 25 (0, 0)) (bP_ BK394) hb); replace HB := bSF_ HB GE394 hb; (try clear hb)))
         go_ret
         exact ⟨by first | rfl | (simp [errW_none, errW_some] <;> rfl) | (simp [*, errW_none, errW_some] <;> rfl), sABelo_13⟩
        ·replace c71 := Bool.eq_false_iff.mpr c71
         subst c71
         replace H := ifF_ H
         obtain rfl := Option.some.inj H
         go_wp2_with (first | ((with_reducible refine gate_callee (f := 14) rfl ?_); refine gL_ (some 67) Tryd.func14 #[.slice A1 l1.length c1] ?_; (with_reducible refine (spec_DrawReadPhrase.calls kj11 _ _ l1 t379 t380 _ ?side1 ?side2 A67.out).mono ?_); (case side1 => exact cB_ HR1 HB); (case side2 => exact HC1.out); rintro e w84 ⟨rfl, hb⟩; refine ⟨_, rfl, ?_⟩; replace BK362 := bB_ BK362 hb; replace HB := bS_ HB hb; (try clear hb)) | ((with_reducible refine gate_callee (f := 9) rfl ?_); refine gL_ (some 73) Tryd.func9 #[.string t379, .int .i64 t380] ?_; (with_reducible refine (spec_ReadPhrase.calls kj11 t379 t380 t381 t382 t383 t384 t385 t386 _ A68.out).mono ?_); rintro e w85 ⟨rfl, hb⟩; refine ⟨_, rfl, ?_⟩; replace BK362 := bB_ BK362 hb; replace HB := bS_ HB hb; (try clear hb)) | ((with_reducible refine gate_dst (N := 15) rfl ?_); refine box_event ?hg (N := 15) ?hd (cs := #[.int .i64 0, .int .i64 0, .int .i64 0, .int .i64 0, .int .i64 0]) (t := 25) ?hr ?_; (case hd => rfl); (case hg => rfl); (case hr => first | (go_simp; done) | (go_simp; rfl)); intro gb387 hg w86 hbox hb; have BK387 := Aside0.mk (hbox); have GW387 := gE_ HB hg; have GE387 := gE_ HB hg; replace HB := bS_ HB hb; have NB362_387 := nL_ BK362 hg; have NB387_362 := nG_ BK362 hg; replace BK362 := bB_ BK362 hb; clear hb hbox hg; have hnb87 := NB387_362.out; have hnc87 := NB362_387.out; obtain ⟨hcz88_0, hcz88_1, hcz88_2, hcz88_3, hcz88_4, hfz88_0, hfz88_1, hfz88_2, hfz88_3, hfz88_4⟩ := cf5_ BK387) | ((with_reducible refine gate_callee (f := 10) rfl ?_); refine gL_ (some 79) Tryd.func10 #[.string t379, .int .i64 t380] ?_; (with_reducible refine (impl_ReadPhrase.calls kj11 t379 t380 t388 t389 t390 t391 t392 false _ A69.out (tab_on HTb.out sABelo_13) (tong_on HGb.out sABelo_13)).mono ?_); rintro e w89 ⟨rfl, hb⟩; refine ⟨_, rfl, ?_⟩; replace BK362 := bBF_ BK362 NB362_387 hb; replace BK387 := Aside0.mk (blk_below (g := gb387) (o := .cells #[.int .i64 t381, .int .i64 t382, .int .i64 t383, .int .i64 t384, .int .i64 t385] 25 (0, 0)) (bP_ BK387) hb); replace HB := bSF_ HB GE387 hb; (try clear hb)) | ((with_reducible refine gate_dst (N := 17) rfl ?_); refine box_event ?hg (N := 17) ?hd (cs := #[.int .i64 0, .int .i64 0, .int .i64 0, .int .i64 0, .int .i64 0]) (t := 25) ?hr ?_; (case hd => rfl); (case hg => rfl); (case hr => first | (go_simp; done) | (go_simp; rfl)); intro gb394 hg w90 hbox hb; have BK394 := Aside0.mk (hbox); have GW394 := gE_ HB hg; have GE394 := gE_ HB hg; replace HB := bS_ HB hb; have NB362_394 := nL_ BK362 hg; have NB394_362 := nG_ BK362 hg; replace BK362 := bB_ BK362 hb; have NB387_394 := nL_ BK387 hg; have NB394_387 := nG_ BK387 hg; replace BK387 := bB_ BK387 hb; clear hb hbox hg; have hnb91 := NB394_362.out; have hnc91 := NB362_394.out; have hnb92 := NB394_387.out; have hnc92 := NB387_394.out; obtain ⟨hcz93_0, hcz93_1, hcz93_2, hcz93_3, hcz93_4, hfz93_0, hfz93_1, hfz93_2, hfz93_3, hfz93_4⟩ := cf5_ BK394))
         go_ret
         exact ⟨by first | rfl | (simp [errW_none, errW_some] <;> rfl) | (simp [*, errW_none, errW_some] <;> rfl), sABelo_13⟩
       ·rw [if_neg c70] at H
        have c70b0 : (t393 == t386) = false := by simpa using c70
        (try (have c70b1 : decide (t393 = t386) = false := by simpa using c70))
        (try (have c70b2 : (t393 == t386) = false := by simpa using c70))
        (try (have c70b3 : ¬ (t393 = t386) := by simpa using c70))
        clear c70
        obtain rfl := Option.some.inj H
        go_wp2_with (first | ((with_reducible refine gate_callee (f := 14) rfl ?_); refine gL_ (some 67) Tryd.func14 #[.slice A1 l1.length c1] ?_; (with_reducible refine (spec_DrawReadPhrase.calls kj11 _ _ l1 t379 t380 _ ?side1 ?side2 A67.out).mono ?_); (case side1 => exact cB_ HR1 HB); (case side2 => exact HC1.out); rintro e w94 ⟨rfl, hb⟩; refine ⟨_, rfl, ?_⟩; replace BK362 := bB_ BK362 hb; replace HB := bS_ HB hb; (try clear hb)) | ((with_reducible refine gate_callee (f := 9) rfl ?_); refine gL_ (some 73) Tryd.func9 #[.string t379, .int .i64 t380] ?_; (with_reducible refine (spec_ReadPhrase.calls kj11 t379 t380 t381 t382 t383 t384 t385 t386 _ A68.out).mono ?_); rintro e w95 ⟨rfl, hb⟩; refine ⟨_, rfl, ?_⟩; replace BK362 := bB_ BK362 hb; replace HB := bS_ HB hb; (try clear hb)) | ((with_reducible refine gate_dst (N := 15) rfl ?_); refine box_event ?hg (N := 15) ?hd (cs := #[.int .i64 0, .int .i64 0, .int .i64 0, .int .i64 0, .int .i64 0]) (t := 25) ?hr ?_; (case hd => rfl); (case hg => rfl); (case hr => first | (go_simp; done) | (go_simp; rfl)); intro gb387 hg w96 hbox hb; have BK387 := Aside0.mk (hbox); have GW387 := gE_ HB hg; have GE387 := gE_ HB hg; replace HB := bS_ HB hb; have NB362_387 := nL_ BK362 hg; have NB387_362 := nG_ BK362 hg; replace BK362 := bB_ BK362 hb; clear hb hbox hg; have hnb97 := NB387_362.out; have hnc97 := NB362_387.out; obtain ⟨hcz98_0, hcz98_1, hcz98_2, hcz98_3, hcz98_4, hfz98_0, hfz98_1, hfz98_2, hfz98_3, hfz98_4⟩ := cf5_ BK387) | ((with_reducible refine gate_callee (f := 10) rfl ?_); refine gL_ (some 79) Tryd.func10 #[.string t379, .int .i64 t380] ?_; (with_reducible refine (impl_ReadPhrase.calls kj11 t379 t380 t388 t389 t390 t391 t392 t393 _ A69.out (tab_on HTb.out sABelo_13) (tong_on HGb.out sABelo_13)).mono ?_); rintro e w99 ⟨rfl, hb⟩; refine ⟨_, rfl, ?_⟩; replace BK362 := bBF_ BK362 NB362_387 hb; replace BK387 := Aside0.mk (blk_below (g := gb387) (o := .cells #[.int .i64 t381, .int .i64 t382, .int .i64 t383, .int .i64 t384, .int .i64 t385] 25 (0, 0)) (bP_ BK387) hb); replace HB := bSF_ HB GE387 hb; (try clear hb)) | ((with_reducible refine gate_dst (N := 17) rfl ?_); refine box_event ?hg (N := 17) ?hd (cs := #[.int .i64 0, .int .i64 0, .int .i64 0, .int .i64 0, .int .i64 0]) (t := 25) ?hr ?_; (case hd => rfl); (case hg => rfl); (case hr => first | (go_simp; done) | (go_simp; rfl)); intro gb394 hg w100 hbox hb; have BK394 := Aside0.mk (hbox); have GW394 := gE_ HB hg; have GE394 := gE_ HB hg; replace HB := bS_ HB hb; have NB362_394 := nL_ BK362 hg; have NB394_362 := nG_ BK362 hg; replace BK362 := bB_ BK362 hb; have NB387_394 := nL_ BK387 hg; have NB394_387 := nG_ BK387 hg; replace BK387 := bB_ BK387 hb; clear hb hbox hg; have hnb101 := NB394_362.out; have hnc101 := NB362_394.out; have hnb102 := NB394_387.out; have hnc102 := NB387_394.out; obtain ⟨hcz103_0, hcz103_1, hcz103_2, hcz103_3, hcz103_4, hfz103_0, hfz103_1, hfz103_2, hfz103_3, hfz103_4⟩ := cf5_ BK394))
        go_ret
        exact ⟨by first | rfl | (simp [errW_none, errW_some] <;> rfl) | (simp [*, errW_none, errW_some] <;> rfl), sABelo_13⟩
    ·rw [if_neg c11] at H
     have c11b0 := beq_eq_false_iff_ne.mpr c11
     have c11b1 := bne_iff_ne.mpr c11
     obtain rfl := Option.some.inj H
     go_wp2_with (first | ((with_reducible refine gate_callee (f := 13) rfl ?_); refine gL_ (some 27) Tryd.func13 #[.slice A0 l0.length c0] ?_; (with_reducible refine (spec_DrawPhrase.calls kj2 _ _ l0 t356 t357 t358 t359 t360 t361 _ ?side1 ?side2 A8.out).mono ?_); (case side1 => exact cB_ HR0 HB); (case side2 => exact HC0.out); rintro e w104 ⟨rfl, hb⟩; refine ⟨_, rfl, ?_⟩; replace HB := bS_ HB hb; (try clear hb)) | ((with_reducible refine gate_dst (N := 5) rfl ?_); refine box_event ?hg (N := 5) ?hd (cs := #[.int .i64 0, .int .i64 0, .int .i64 0, .int .i64 0, .int .i64 0]) (t := 25) ?hr ?_; (case hd => rfl); (case hg => rfl); (case hr => first | (go_simp; done) | (go_simp; rfl)); intro gb362 hg w105 hbox hb; have BK362 := Aside0.mk (hbox); have GW362 := gE_ HB hg; have GE362 := gE_ HB hg; replace HB := bS_ HB hb; clear hb hbox hg; obtain ⟨hcz106_0, hcz106_1, hcz106_2, hcz106_3, hcz106_4, hfz106_0, hfz106_1, hfz106_2, hfz106_3, hfz106_4⟩ := cf5_ BK362) | ((with_reducible refine gate_callee (f := 6) rfl ?_); refine gL_ (some 32) Tryd.func6 #[.agg #[.int .i64 t356, .int .i64 t357, .int .i64 t358, .int .i64 t359, .int .i64 t360], .int .i64 t361] ?_; (with_reducible refine (spec_Phrase.calls kj2 t356 t357 t358 t359 t360 t361 t363 _ A9.out).mono ?_); rintro e w107 ⟨rfl, hb⟩; refine ⟨_, rfl, ?_⟩; replace BK362 := Aside0.mk (blk_below (g := gb362) (o := .cells #[.int .i64 t356, .int .i64 t357, .int .i64 t358, .int .i64 t359, .int .i64 t360] 25 (0, 0)) (bP_ BK362) hb); replace HB := bSF_ HB GE362 hb; (try clear hb); obtain ⟨hcz108_0, hcz108_1, hcz108_2, hcz108_3, hcz108_4, hfz108_0, hfz108_1, hfz108_2, hfz108_3, hfz108_4⟩ := cf5_ BK362) | ((with_reducible refine gate_callee (f := 8) rfl ?_); refine gL_ (some 35) Tryd.func8 #[.agg #[.int .i64 t356, .int .i64 t357, .int .i64 t358, .int .i64 t359, .int .i64 t360], .int .i64 t361] ?_; (with_reducible refine (impl_Phrase.calls kj2 t356 t357 t358 t359 t360 t361 t364 _ A10.out (tab_on HTb.out sABelo_13) (tong_on HGb.out sABelo_13)).mono ?_); rintro e w109 ⟨rfl, hb⟩; refine ⟨_, rfl, ?_⟩; replace BK362 := bB_ BK362 hb; replace HB := bS_ HB hb; (try clear hb)))
     go_ret
     exact ⟨by first | rfl | (simp [errW_none, errW_some] <;> rfl) | (simp [*, errW_none, errW_some] <;> rfl), sABelo_13⟩

end Go.Proofs.YtllkijlmjapleaaDoor.QFnPhrases
