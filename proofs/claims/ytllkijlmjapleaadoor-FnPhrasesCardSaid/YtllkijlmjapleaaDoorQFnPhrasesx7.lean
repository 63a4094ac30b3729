-- Written by a program of this session out of the printer's texts and contracts of its own.
import Derived.Test.YtllkijlmjapleaaDoorSq
import Derived.Test.YtllkijlmjapleaaDoorQFnPhrasesx0
import Derived.Test.YtllkijlmjapleaaDoorQFnPhrasesx2
import Derived.Test.YtllkijlmjapleaaDoorQFnPhrasesx3
import Derived.Test.YtllkijlmjapleaaDoorQFnPhrasesx4
import Derived.Test.YtllkijlmjapleaaDoorQFnPhrasesx6
namespace Go.Proofs.YtllkijlmjapleaaDoor.QFnPhrases
open Go.RowKit Go.Proofs.YtllkijlmjapleaaDoorW.PrintWords Go.Proofs.YtllkijlmjapleaaDoorW.PrintLast Go.Proofs.YtllkijlmjapleaaDoorW.PrintMore Go.Proofs.YtllkijlmjapleaaDoor.Sq
attribute [local go_sem] max2_int min2_int max_two min_two max_three min_three max_four min_four   -- for this text's walks alone
set_option linter.unusedVariables false
set_option linter.unusedSimpArgs false
theorem sABelo_7 {b : Nat} {w W : World} (h : Below b w W := by repeat (first | (with_reducible first | exact Aside0.out (by assumption) | apply below_alloc | apply pw_below_drewN | apply below_drew1 | refine below_set ?_ (Aside0.out (by assumption))) | exact Aside0.out (by assumption))) : Below b w W := h

/-! ### spec_ReadPhrase: function 9 -/
mutual
def spec_ReadPhrase.j0 : Nat → ByteArray → Int → Bool → Option (Int × Int × Int × Int × Int × Bool)
 | 0, _, _, _ => none
 | k + 1, x0, x1, x20 => if x20 = true then (some (0, 0, 0, 0, 0, false)) else (spec_ReadPhrase.l0 k x0 x1 0)
def spec_ReadPhrase.l0 : Nat → ByteArray → Int → Int → Option (Int × Int × Int × Int × Int × Bool)
 | 0, _, _, _ => none
 | k + 1, x0, x1, x6 => if x6 ≤ 8 then (spec_ReadPhrase.l1 k x0 x1 x6 0) else (some (0, 0, 0, 0, 0, false))
def spec_ReadPhrase.l1 : Nat → ByteArray → Int → Int → Int → Option (Int × Int × Int × Int × Int × Bool)
 | 0, _, _, _, _ => none
 | k + 1, x0, x1, x6, x7 => if x7 ≤ 12 then (if ((x7 == 0) != (x6 == 0)) = true then (spec_ReadPhrase.j3 k x0 x1 x6 x7 true x6 x7 0 0 0) else ((spec_l23Wind.f k x6 x7 0 0 0 x1).bind fun t213 => ((spec_l23Ahead.f x0 t213).bind fun t214 => (spec_ReadPhrase.j3 k x0 x1 x6 x7 (!t214) x6 x7 0 0 0)))) else (spec_ReadPhrase.l0 k x0 x1 (wrap64 (x6 + 1)))
def spec_ReadPhrase.j3 : Nat → ByteArray → Int → Int → Int → Bool → Int → Int → Int → Int → Int → Option (Int × Int × Int × Int × Int × Bool)
 | 0, _, _, _, _, _, _, _, _, _, _ => none
 | k + 1, x0, x1, x6, x7, x45, x213000, x213001, x213002, x213003, x213004 => if x45 = true then (spec_ReadPhrase.l1 k x0 x1 x6 (wrap64 (x7 + 1))) else (spec_ReadPhrase.l2 k x0 x1 x6 x7 x213000 x213001 0 x213003 x213004)
def spec_ReadPhrase.l2 : Nat → ByteArray → Int → Int → Int → Int → Int → Int → Int → Int → Option (Int × Int × Int × Int × Int × Bool)
 | 0, _, _, _, _, _, _, _, _, _ => none
 | k + 1, x0, x1, x6, x7, x213000, x213001, x213002, x213003, x213004 => if x213002 ≤ 12 then ((spec_l23Wind.f k x213000 x213001 x213002 x213003 x213004 x1).bind fun t215 => ((spec_l23Later.f k x213000 x213001 x213002 x213003 x213004 x1).bind fun t216 => (if t215.size + t216.size ≤ 9223372036854775807 then (if (t215 ++ t216).size + 2 ≤ 9223372036854775807 then ((spec_l23Ahead.f x0 ((t215 ++ t216) ++ (⟨#[46, 32]⟩ : ByteArray))).bind fun t217 => (if t217 = true then (spec_ReadPhrase.l3 k x0 x1 x6 x7 0 x213000 x213001 x213002 x213003 x213004) else (spec_ReadPhrase.l2 k x0 x1 x6 x7 x213000 x213001 (wrap64 (x213002 + 1)) x213003 x213004))) else (none)) else (none)))) else (spec_ReadPhrase.l1 k x0 x1 x6 (wrap64 (x7 + 1)))
def spec_ReadPhrase.l3 : Nat → ByteArray → Int → Int → Int → Int → Int → Int → Int → Int → Int → Option (Int × Int × Int × Int × Int × Bool)
 | 0, _, _, _, _, _, _, _, _, _, _ => none
 | k + 1, x0, x1, x6, x7, x10, x213000, x213001, x213002, x213003, x213004 => if x10 ≤ 3 then (spec_ReadPhrase.l4 k x0 x1 x6 x7 x10 0 x213000 x213001 x213002 x213003 x213004) else (spec_ReadPhrase.l2 k x0 x1 x6 x7 x213000 x213001 (wrap64 (x213002 + 1)) x213003 x213004)
def spec_ReadPhrase.l4 : Nat → ByteArray → Int → Int → Int → Int → Int → Int → Int → Int → Int → Int → Option (Int × Int × Int × Int × Int × Bool)
 | 0, _, _, _, _, _, _, _, _, _, _, _ => none
 | k + 1, x0, x1, x6, x7, x10, x11, x213000, x213001, x213002, x213003, x213004 => if x11 ≤ 100 then ((spec_l23Ok.f x6 x7 x213002 x10 x11).bind fun t219 => (if t219 = true then ((spec_Phrase.f k x6 x7 x213002 x10 x11 x1).bind fun t220 => (if t220.toList = x0.toList then (some (x6, x7, x213002, x10, x11, true)) else (spec_ReadPhrase.l4 k x0 x1 x6 x7 x10 (wrap64 (x11 + 1)) x213000 x213001 x213002 x213003 x213004))) else (spec_ReadPhrase.l4 k x0 x1 x6 x7 x10 (wrap64 (x11 + 1)) x213000 x213001 x213002 x213003 x213004))) else (spec_ReadPhrase.l3 k x0 x1 x6 x7 (wrap64 (x10 + 1)) x213000 x213001 x213002 x213003 x213004)
end
def spec_ReadPhrase.f (k : Nat) (a0 : ByteArray) (a1 : Int) : Option (Int × Int × Int × Int × Int × Bool) := (spec_l2In.f a1 1 3).bind fun t211 => (if t211 = true then (spec_ReadPhrase.j0 k a0 a1 (decide ((a0.size : Int) > 200))) else (spec_ReadPhrase.j0 k a0 a1 true))
theorem spec_ReadPhrase.mono_l : ∀ k, (∀ y0 y1 y2, LeO (spec_ReadPhrase.j0 k y0 y1 y2) (spec_ReadPhrase.j0 (k + 1) y0 y1 y2)) ∧ (∀ y0 y1 y2, LeO (spec_ReadPhrase.l0 k y0 y1 y2) (spec_ReadPhrase.l0 (k + 1) y0 y1 y2)) ∧ (∀ y0 y1 y2 y3, LeO (spec_ReadPhrase.l1 k y0 y1 y2 y3) (spec_ReadPhrase.l1 (k + 1) y0 y1 y2 y3)) ∧ (∀ y0 y1 y2 y3 y4 y5 y6 y7 y8 y9, LeO (spec_ReadPhrase.j3 k y0 y1 y2 y3 y4 y5 y6 y7 y8 y9) (spec_ReadPhrase.j3 (k + 1) y0 y1 y2 y3 y4 y5 y6 y7 y8 y9)) ∧ (∀ y0 y1 y2 y3 y4 y5 y6 y7 y8, LeO (spec_ReadPhrase.l2 k y0 y1 y2 y3 y4 y5 y6 y7 y8) (spec_ReadPhrase.l2 (k + 1) y0 y1 y2 y3 y4 y5 y6 y7 y8)) ∧ (∀ y0 y1 y2 y3 y4 y5 y6 y7 y8 y9, LeO (spec_ReadPhrase.l3 k y0 y1 y2 y3 y4 y5 y6 y7 y8 y9) (spec_ReadPhrase.l3 (k + 1) y0 y1 y2 y3 y4 y5 y6 y7 y8 y9)) ∧ (∀ y0 y1 y2 y3 y4 y5 y6 y7 y8 y9 y10, LeO (spec_ReadPhrase.l4 k y0 y1 y2 y3 y4 y5 y6 y7 y8 y9 y10) (spec_ReadPhrase.l4 (k + 1) y0 y1 y2 y3 y4 y5 y6 y7 y8 y9 y10))
 | 0 => ⟨fun _ _ _ r h => by simp [spec_ReadPhrase.j0] at h, fun _ _ _ r h => by simp [spec_ReadPhrase.l0] at h, fun _ _ _ _ r h => by simp [spec_ReadPhrase.l1] at h, fun _ _ _ _ _ _ _ _ _ _ r h => by simp [spec_ReadPhrase.j3] at h, fun _ _ _ _ _ _ _ _ _ r h => by simp [spec_ReadPhrase.l2] at h, fun _ _ _ _ _ _ _ _ _ _ r h => by simp [spec_ReadPhrase.l3] at h, fun _ _ _ _ _ _ _ _ _ _ _ r h => by simp [spec_ReadPhrase.l4] at h⟩
 | k + 1 => by
  obtain ⟨ih0, ih1, ih2, ih3, ih4, ih5, ih6⟩ := spec_ReadPhrase.mono_l k
  refine ⟨?_, ?_, ?_, ?_, ?_, ?_, ?_⟩
  intro y0 y1 y2; unfold spec_ReadPhrase.j0; rotate_left
  intro y0 y1 y2; unfold spec_ReadPhrase.l0; rotate_left
  intro y0 y1 y2 y3; unfold spec_ReadPhrase.l1; rotate_left
  intro y0 y1 y2 y3 y4 y5 y6 y7 y8 y9; unfold spec_ReadPhrase.j3; rotate_left
  intro y0 y1 y2 y3 y4 y5 y6 y7 y8; unfold spec_ReadPhrase.l2; rotate_left
  intro y0 y1 y2 y3 y4 y5 y6 y7 y8 y9; unfold spec_ReadPhrase.l3; rotate_left
  intro y0 y1 y2 y3 y4 y5 y6 y7 y8 y9 y10; unfold spec_ReadPhrase.l4; rotate_left
  all_goals repeat' first
  | (with_reducible exact ih0 _ _ _)
  | (with_reducible exact ih1 _ _ _)
  | (with_reducible exact ih2 _ _ _ _)
  | (with_reducible exact ih3 _ _ _ _ _ _ _ _ _ _)
  | (with_reducible exact ih4 _ _ _ _ _ _ _ _ _)
  | (with_reducible exact ih5 _ _ _ _ _ _ _ _ _ _)
  | (with_reducible exact ih6 _ _ _ _ _ _ _ _ _ _ _)
  | (with_reducible exact spec_Phrase.mono _ _ _ _ _ _ _)
  | (with_reducible exact spec_l23Later.mono _ _ _ _ _ _ _)
  | (with_reducible exact spec_l23Wind.mono _ _ _ _ _ _ _)
  | (with_reducible exact LeO.refl _)
  | (with_reducible exact LeO.none _)
  | (with_reducible refine LeO.ite ?_ ?_)
  | (with_reducible refine LeO.bind ?_ (fun _ => ?_))
  | exact ih0 _ _ _
  | exact ih1 _ _ _
  | exact ih2 _ _ _ _
  | exact ih3 _ _ _ _ _ _ _ _ _ _
  | exact ih4 _ _ _ _ _ _ _ _ _
  | exact ih5 _ _ _ _ _ _ _ _ _ _
  | exact ih6 _ _ _ _ _ _ _ _ _ _ _
  | exact spec_Phrase.mono _ _ _ _ _ _ _
  | exact spec_l23Later.mono _ _ _ _ _ _ _
  | exact spec_l23Wind.mono _ _ _ _ _ _ _
  | exact LeO.none _
  | refine LeO.ite ?_ ?_
  | refine LeO.bind ?_ (fun _ => ?_)
theorem spec_ReadPhrase.mono : ∀ a0 a1 k, LeO (spec_ReadPhrase.f k a0 a1) (spec_ReadPhrase.f (k + 1) a0 a1) := by
 intro a0 a1 k
 obtain ⟨ih0, ih1, ih2, ih3, ih4, ih5, ih6⟩ := spec_ReadPhrase.mono_l k
 unfold spec_ReadPhrase.f
 repeat' first
   | (with_reducible exact ih0 _ _ _)
   | (with_reducible exact ih1 _ _ _)
   | (with_reducible exact ih2 _ _ _ _)
   | (with_reducible exact ih3 _ _ _ _ _ _ _ _ _ _)
   | (with_reducible exact ih4 _ _ _ _ _ _ _ _ _)
   | (with_reducible exact ih5 _ _ _ _ _ _ _ _ _ _)
   | (with_reducible exact ih6 _ _ _ _ _ _ _ _ _ _ _)
   | (with_reducible exact spec_Phrase.mono _ _ _ _ _ _ _)
   | (with_reducible exact spec_l23Later.mono _ _ _ _ _ _ _)
   | (with_reducible exact spec_l23Wind.mono _ _ _ _ _ _ _)
   | (with_reducible exact LeO.refl _)
   | (with_reducible exact LeO.none _)
   | (with_reducible refine LeO.ite ?_ ?_)
   | (with_reducible refine LeO.bind ?_ (fun _ => ?_))
   | exact ih0 _ _ _
   | exact ih1 _ _ _
   | exact ih2 _ _ _ _
   | exact ih3 _ _ _ _ _ _ _ _ _ _
   | exact ih4 _ _ _ _ _ _ _ _ _
   | exact ih5 _ _ _ _ _ _ _ _ _ _
   | exact ih6 _ _ _ _ _ _ _ _ _ _ _
   | exact spec_Phrase.mono _ _ _ _ _ _ _
   | exact spec_l23Later.mono _ _ _ _ _ _ _
   | exact spec_l23Wind.mono _ _ _ _ _ _ _
   | exact LeO.none _
   | refine LeO.ite ?_ ?_
   | refine LeO.bind ?_ (fun _ => ?_)
def spec_ReadPhrase.T14 : Bool × List (List Nat × List Nat) := (true, [([], []), ([], []), ([0, 1], [0, 1]), ([], []), ([], []), ([3, 4, 2], [3, 4]), ([2, 5], [2, 5]), ([6], [6]), ([7, 5, 0, 1, 2, 3, 4, 5, 6, 7], [7])])
def spec_ReadPhrase.B14 : List Nat := [0, 0, 3, 0, 0, 31, 63, 127, 255]
theorem spec_ReadPhrase.tab14 : rtab .any (opsOf Tryd.f9 14) = spec_ReadPhrase.T14 := by kernel_rfl
theorem spec_ReadPhrase.bits14 : waitsOk spec_ReadPhrase.T14.2 spec_ReadPhrase.B14 = true := by kernel_rfl
set_option maxHeartbeats 8000000 in
set_option maxRecDepth 100000 in
theorem spec_ReadPhrase.calls (k : Nat) (a0 : ByteArray) (a1 : Int) (r1 : Int) (r2 : Int) (r3 : Int) (r4 : Int) (r5 : Int) (r6 : Bool) (w : World) (h : spec_ReadPhrase.f k a0 a1 = some (r1, r2, r3, r4, r5, r6)) :
  Calls Tryd.prog 9 #[.string a0, .int .i64 a1] w fun e w' => e = .returned (.tuple #[.agg #[.int .i64 r1, .int .i64 r2, .int .i64 r3, .int .i64 r4, .int .i64 r5], .bool r6]) ∧ Below w.heap.size w w' := by
 have hu25 := Tryd.underlying25
 have HB := Aside0.mk (Below.refl w.heap.size w)
 have H : ((spec_l2In.f a1 1 3).bind fun t211 => (if t211 = true then (spec_ReadPhrase.j0 k a0 a1 (decide ((a0.size : Int) > 200))) else (spec_ReadPhrase.j0 k a0 a1 true))) = some (r1, r2, r3, r4, r5, r6) := h
 clear h; have HC3 := Aside0.mk H; clear H
 go_enter Tryd.func9, Tryd.ntmps9
 go_upto_region 1 with (first | ((with_reducible refine gate_dst (N := 4) rfl ?_); (try (refine gate_guard (by rfl) ?_; dsimp only)); refine box_event ?hg (N := 4) ?hd (cs := #[.int .i64 0, .int .i64 0, .int .i64 0, .int .i64 0, .int .i64 0]) (t := 25) ?hr ?_; (case hd => rfl); (case hg => rfl); (case hr => first | (go_simp; done) | (go_simp; rfl)); intro gb210 hg w4 hbox hb; have BK210 := Aside0.mk (hbox); have GW210 := gE_ HB hg; have GE210 := gE_ HB hg; replace HB := bS_ HB hb; clear hb hbox hg))
 (try simp only [Act.put, List.setIfInBounds_toArray, List.set_cons_zero, List.set_cons_succ])
 go_cut [20] (fun v20 wc => ∃ (kq : Nat) (x20_2 : Bool), v20 = .bool x20_2 ∧ Aside0 (spec_ReadPhrase.j0 kq a0 a1 x20_2 = some (r1, r2, r3, r4, r5, r6)) ∧ Aside0 (kq ≤ k) ∧ Aside0 (wc.heap[gb210]? = some (.cells #[.int .i64 0, .int .i64 0, .int .i64 0, .int .i64 0, .int .i64 0] 25 (0, 0))) ∧ Aside0 (Below w.heap.size w wc))
 case first =>
  have H := HC3.out; clear HC3; replace H := Option.bind_eq_some_iff.mp H
  obtain ⟨t211, A50, H⟩ := H
  replace H : (if t211 = true then (spec_ReadPhrase.j0 k a0 a1 (decide ((a0.size : Int) > 200))) else (spec_ReadPhrase.j0 k a0 a1 true)) = some (r1, r2, r3, r4, r5, r6) := H
  have A5 := Aside0.mk A50; clear A50
  by_cases c6 : t211 = true
  ·subst c6
   replace H := ifT_ H; have H' := Aside0.mk H; clear H
   go_wp2_with (first | ((with_reducible refine gate_callee (f := 16) rfl ?_); refine gL_ (some 14) Tryd.func16 #[.int .i64 a1, .int .i64 1, .int .i64 3] ?_; (with_reducible refine (spec_l2In.calls a1 1 3 true _ A5.out).mono ?_); rintro e w' ⟨rfl, ⟨nd, rfl⟩⟩; refine ⟨_, rfl, ?_⟩))
   go_meet
   case rel => exact ⟨_, (decide ((a0.size : Int) > 200)), (by first | rfl | (simp; done) | (simp [*]; done)), H', ⟨by first | omega | exact Nat.le_refl _⟩, ⟨bT_ BK210⟩, ⟨sABelo_7⟩⟩
  ·replace c6 := Bool.eq_false_iff.mpr c6
   subst c6
   replace H := ifF_ H; have H' := Aside0.mk H; clear H
   go_wp2_with (first | ((with_reducible refine gate_callee (f := 16) rfl ?_); refine gL_ (some 14) Tryd.func16 #[.int .i64 a1, .int .i64 1, .int .i64 3] ?_; (with_reducible refine (spec_l2In.calls a1 1 3 false _ A5.out).mono ?_); rintro e w' ⟨rfl, ⟨nd, rfl⟩⟩; refine ⟨_, rfl, ?_⟩))
   go_meet
   case rel => exact ⟨_, (true), (by first | rfl | (simp; done) | (simp [*]; done)), H', ⟨by first | omega | exact Nat.le_refl _⟩, ⟨bT_ BK210⟩, ⟨sABelo_7⟩⟩
 case rest =>
  clear HC3
  obtain ⟨kq, x20_2, rfl, HA, HJ2, BK210, HB⟩ := hcut
  cases kq with
  | zero => exact absurd HA.out (by simp [spec_ReadPhrase.j0])
  | succ kj2 =>
   have H := HA.out; clear HA
   simp only [spec_ReadPhrase.j0] at H
   by_cases c7 : x20_2 = true
   ·subst c7
    replace H := ifT_ H
    simp only [Option.some.injEq, Prod.mk.injEq] at H
    obtain ⟨rfl, rfl, rfl, rfl, rfl, rfl⟩ := H
    obtain ⟨hcz8_0, hcz8_1, hcz8_2, hcz8_3, hcz8_4, hfz8_0, hfz8_1, hfz8_2, hfz8_3, hfz8_4⟩ := cf5_ BK210
    go_wp2
    refine bodyPost_ret (results_ct rfl _ _ gb210 25 #[.int .i64 0, .int .i64 0, .int .i64 0, .int .i64 0, .int .i64 0] (0, 0) _ rfl (bP_ BK210) Tryd.underlying25 rfl (by kernel_rfl)) rfl ?_
    exact ⟨by first | rfl | (simp [errW_none, errW_some] <;> rfl) | (simp [*, errW_none, errW_some] <;> rfl), sABelo_7⟩
   ·replace c7 := Bool.eq_false_iff.mpr c7
    subst c7
    replace H := ifF_ H; have H' := Aside0.mk H; clear H
    go_wp2
    go_loopg [6] kj2 (fun kq v6 w' => ∃ (x6_2 : Int) (x211000_2 : Int) (x211001_2 : Int) (x211002_2 : Int) (x211003_2 : Int) (x211004_2 : Int), v6 = .int .i64 x6_2 ∧ Aside0 (spec_ReadPhrase.l0 kq a0 a1 x6_2 = some (r1, r2, r3, r4, r5, r6)) ∧ Aside0 (kq ≤ kj2) ∧ Aside0 (w'.heap[gb210]? = some (.cells #[.int .i64 x211000_2, .int .i64 x211001_2, .int .i64 x211002_2, .int .i64 x211003_2, .int .i64 x211004_2] 25 (0, 0))) ∧ Aside0 (Below w.heap.size w w'))
    case atStart => exact ⟨(0), (0), (0), (0), (0), (0), (by first | rfl | (simp; done) | (simp [*]; done)), H', ⟨Nat.le_refl _⟩, ⟨bT_ BK210⟩, ⟨sABelo_7⟩⟩
    case round =>
     clear H'; (try clear c7)
     obtain ⟨x6_2, x211000_2, x211001_2, x211002_2, x211003_2, x211004_2, rfl, HA, HK2, BK210, HB⟩ := hrel
     cases gk with
     | zero => exact absurd HA.out (by simp [spec_ReadPhrase.l0])
     | succ k2 =>
      have H := HA.out; clear HA
      simp only [spec_ReadPhrase.l0] at H
      by_cases c9 : x6_2 ≤ 8
      ·rw [if_pos c9] at H
       have c9b0 := decide_eq_true c9
       clear c9; have H' := Aside0.mk H; clear H
       go_wp2
       go_loopg [7] k2 (fun kq v7 w' => ∃ (x7_3 : Int) (x211000_3 : Int) (x211001_3 : Int) (x211002_3 : Int) (x211003_3 : Int) (x211004_3 : Int), v7 = .int .i64 x7_3 ∧ Aside0 (spec_ReadPhrase.l1 kq a0 a1 x6_2 x7_3 = some (r1, r2, r3, r4, r5, r6)) ∧ Aside0 (kq ≤ k2) ∧ Aside0 (w'.heap[gb210]? = some (.cells #[.int .i64 x211000_3, .int .i64 x211001_3, .int .i64 x211002_3, .int .i64 x211003_3, .int .i64 x211004_3] 25 (0, 0))) ∧ Aside0 (Below w.heap.size w w'))
       case atStart => exact ⟨(0), (x211000_2), (x211001_2), (x211002_2), (x211003_2), (x211004_2), (by first | rfl | (simp; done) | (simp [*]; done)), H', ⟨Nat.le_refl _⟩, ⟨bT_ BK210⟩, ⟨sABelo_7⟩⟩
       case round =>
        clear H'; (try clear c7); (try clear c9); (try clear c9b0)
        obtain ⟨x7_3, x211000_3, x211001_3, x211002_3, x211003_3, x211004_3, rfl, HA, HK3, BK210, HB⟩ := hrel
        cases gk with
        | zero => exact absurd HA.out (by simp [spec_ReadPhrase.l1])
        | succ k3 =>
         have H := HA.out; clear HA
         simp only [spec_ReadPhrase.l1] at H
         by_cases c10 : x7_3 ≤ 12
         ·rw [if_pos c10] at H
          have c10b0 := decide_eq_true c10
          clear c10; have HC11 := Aside0.mk H; clear H
          go_upto_region 10 with (first | ((with_reducible refine gate_dst (N := 8) rfl ?_); (try (refine gate_guard (by rfl) ?_; dsimp only)); refine box_event ?hg (N := 8) ?hd (cs := #[.int .i64 0, .int .i64 0, .int .i64 0, .int .i64 0, .int .i64 0]) (t := 25) ?hr ?_; (case hd => rfl); (case hg => rfl); (case hr => first | (go_simp; done) | (go_simp; rfl)); intro gb212 hg w12 hbox hb; have BK212 := Aside0.mk (hbox); have GW212 := gE_ HB hg; have GE212 := gE_ HB hg; replace HB := bS_ HB hb; have NB210_212 := nL_ BK210 hg; have NB212_210 := nG_ BK210 hg; replace BK210 := bB_ BK210 hb; clear hb hbox hg; have hnb13 := NB212_210.out; have hnc13 := NB210_212.out; obtain ⟨hcz14_0, hcz14_1, hcz14_2, hcz14_3, hcz14_4, hfz14_0, hfz14_1, hfz14_2, hfz14_3, hfz14_4⟩ := cf5_ BK212))
          (try simp only [Act.put, List.setIfInBounds_toArray, List.set_cons_zero, List.set_cons_succ])
          go_cut [45] (fun v45 wc => ∃ (kq : Nat) (x45_10 : Bool), v45 = .bool x45_10 ∧ Aside0 (spec_ReadPhrase.j3 kq a0 a1 x6_2 x7_3 x45_10 x6_2 x7_3 0 0 0 = some (r1, r2, r3, r4, r5, r6)) ∧ Aside0 (kq ≤ k3) ∧ Aside0 (wc.heap[gb210]? = some (.cells #[.int .i64 x211000_3, .int .i64 x211001_3, .int .i64 x211002_3, .int .i64 x211003_3, .int .i64 x211004_3] 25 (0, 0))) ∧ Aside0 (wc.heap[gb212]? = some (.cells #[.int .i64 x6_2, .int .i64 x7_3, .int .i64 0, .int .i64 0, .int .i64 0] 25 (0, 0))) ∧ Aside0 (Below w.heap.size w wc))
          case first =>
           have H := HC11.out; clear HC11
           by_cases c15 : ((x7_3 == 0) != (x6_2 == 0)) = true
           ·rw [if_pos c15] at H
            have c15b0 : ((x7_3 == 0) != (x6_2 == 0)) = true := c15
            (try (have c15b1 : decide ((x7_3 == 0) = (x6_2 == 0)) = false := by simpa using c15))
            (try (have c15b2 : ((x7_3 == 0) == (x6_2 == 0)) = false := by simpa using c15))
            (try (have c15b3 : ¬ ((x7_3 == 0) = (x6_2 == 0)) := by simpa using c15))
            clear c15
            (first | rw [c15b0] | (simp only [i64_w, i32_w]; rw [c15b0]) | skip)
            have H' := Aside0.mk H; clear H
            go_wp2
            go_meet
            case rel => exact ⟨_, (true), (by first | rfl | (simp; done) | (simp [*]; done)), H', ⟨by have := HJ2.out; have := HK2.out; have := HK3.out; first | omega | exact Nat.le_refl _⟩, ⟨bF_ BK210 NB210_212⟩, ⟨bP_ BK212⟩, ⟨sABelo_7⟩⟩
           ·rw [if_neg c15] at H
            have c15b0 : ((x7_3 == 0) != (x6_2 == 0)) = false := by simpa using c15
            (try (have c15b1 : decide ((x7_3 == 0) = (x6_2 == 0)) = true := by simpa using c15))
            (try (have c15b2 : ((x7_3 == 0) == (x6_2 == 0)) = true := by simpa using c15))
            clear c15
            (first | rw [c15b0] | (simp only [i64_w, i32_w]; rw [c15b0]) | skip)
            replace H := Option.bind_eq_some_iff.mp H
            obtain ⟨t213, A160, H⟩ := H
            replace H : ((spec_l23Ahead.f a0 t213).bind fun t214 => (spec_ReadPhrase.j3 k3 a0 a1 x6_2 x7_3 (!t214) x6_2 x7_3 0 0 0)) = some (r1, r2, r3, r4, r5, r6) := H
            have A16 := Aside0.mk A160; clear A160; replace H := Option.bind_eq_some_iff.mp H
            obtain ⟨t214, A170, H⟩ := H
            replace H : (spec_ReadPhrase.j3 k3 a0 a1 x6_2 x7_3 (!t214) x6_2 x7_3 0 0 0) = some (r1, r2, r3, r4, r5, r6) := H
            have A17 := Aside0.mk A170; clear A170; have H' := Aside0.mk H; clear H; have hnb18 := NB212_210.out; have hnc18 := NB210_212.out
            obtain ⟨hcz19_0, hcz19_1, hcz19_2, hcz19_3, hcz19_4, hfz19_0, hfz19_1, hfz19_2, hfz19_3, hfz19_4⟩ := cf5_ BK212
            go_wp2_with (first | (go_at_call 17; (with_reducible refine (spec_l23Wind.calls k3 x6_2 x7_3 0 0 0 a1 t213 _ A16.out).mono ?_); rintro e w20 ⟨rfl, hb⟩; replace BK210 := bBF_ BK210 NB210_212 hb; replace BK212 := Aside0.mk (blk_below (g := gb212) (o := .cells #[.int .i64 x6_2, .int .i64 x7_3, .int .i64 0, .int .i64 0, .int .i64 0] 25 (0, 0)) (bP_ BK212) hb); replace HB := bSF_ HB GE212 hb; (try clear hb)) | (go_at_call 24; (with_reducible refine (spec_l23Ahead.calls a0 t213 t214 _ A17.out).mono ?_); rintro e w' ⟨rfl, ⟨nd, rfl⟩⟩))
            go_meet
            case rel => exact ⟨_, (!t214), (by first | rfl | (simp; done) | (simp [*]; done)), H', ⟨by have := HJ2.out; have := HK2.out; have := HK3.out; first | omega | exact Nat.le_refl _⟩, ⟨bT_ BK210⟩, ⟨bT_ BK212⟩, ⟨sABelo_7⟩⟩
          case rest =>
           clear HC11; (try clear c7); (try clear c9); (try clear c9b0); (try clear c10); (try clear c10b0); (try clear hcz14_0); (try clear hcz14_1); (try clear hcz14_2); (try clear hcz14_3); (try clear hcz14_4); (try clear hfz14_0); (try clear hfz14_1); (try clear hfz14_2); (try clear hfz14_3); (try clear hfz14_4)
           obtain ⟨kq, x45_10, rfl, HA, HJ10, BK210, BK212, HB⟩ := hcut
           cases kq with
           | zero => exact absurd HA.out (by simp [spec_ReadPhrase.j3])
           | succ kj10 =>
            have H := HA.out; clear HA
            simp only [spec_ReadPhrase.j3] at H
            by_cases c21 : x45_10 = true
            ·subst c21
             replace H := ifT_ H; have H' := Aside0.mk H; clear H
             go_wp2
             go_roundg kj10
             case measure => have := HJ2.out; have := HK2.out; have := HK3.out; have := HJ10.out; omega
             case rel => exact ⟨(wrap64 (x7_3 + 1)), (x211000_3), (x211001_3), (x211002_3), (x211003_3), (x211004_3), (by first | rfl | (simp; done) | (simp [*]; done)), H', ⟨by have := HJ2.out; have := HK2.out; have := HK3.out; have := HJ10.out; omega⟩, ⟨bT_ BK210⟩, ⟨sABelo_7⟩⟩
            ·replace c21 := Bool.eq_false_iff.mpr c21
             subst c21
             replace H := ifF_ H; have H' := Aside0.mk H; clear H; have hnb22 := NB212_210.out; have hnc22 := NB210_212.out
             obtain ⟨hcz23_0, hcz23_1, hcz23_2, hcz23_3, hcz23_4, hfz23_0, hfz23_1, hfz23_2, hfz23_3, hfz23_4⟩ := cf5_ BK212
             go_wp2
             go_loopg [] kj10 (fun kq w' => ∃ (x211000_5 : Int) (x211001_5 : Int) (x211002_5 : Int) (x211003_5 : Int) (x211004_5 : Int) (x213002_5 : Int), Aside0 (spec_ReadPhrase.l2 kq a0 a1 x6_2 x7_3 x6_2 x7_3 x213002_5 0 0 = some (r1, r2, r3, r4, r5, r6)) ∧ Aside0 (kq ≤ kj10) ∧ Aside0 (w'.heap[gb210]? = some (.cells #[.int .i64 x211000_5, .int .i64 x211001_5, .int .i64 x211002_5, .int .i64 x211003_5, .int .i64 x211004_5] 25 (0, 0))) ∧ Aside0 (w'.heap[gb212]? = some (.cells #[.int .i64 x6_2, .int .i64 x7_3, .int .i64 x213002_5, .int .i64 0, .int .i64 0] 25 (0, 0))) ∧ Aside0 (Below w.heap.size w w'))
             case atStart => exact ⟨(x211000_3), (x211001_3), (x211002_3), (x211003_3), (x211004_3), (0), H', ⟨Nat.le_refl _⟩, ⟨bF_ BK210 NB210_212⟩, ⟨bP_ BK212⟩, ⟨sABelo_7⟩⟩
             case round =>
              clear H'; (try clear c7); (try clear c9); (try clear c9b0); (try clear c10); (try clear c10b0); (try clear c21); (try clear hcz14_0); (try clear hcz14_1); (try clear hcz14_2); (try clear hcz14_3); (try clear hcz14_4); (try clear hcz23_0); (try clear hcz23_1); (try clear hcz23_2); (try clear hcz23_3); (try clear hcz23_4); (try clear hfz14_0); (try clear hfz14_1); (try clear hfz14_2); (try clear hfz14_3); (try clear hfz14_4); (try clear hfz23_0); (try clear hfz23_1); (try clear hfz23_2); (try clear hfz23_3); (try clear hfz23_4)
              obtain ⟨x211000_5, x211001_5, x211002_5, x211003_5, x211004_5, x213002_5, HA, HK5, BK210, BK212, HB⟩ := hrel
              cases gk with
              | zero => exact absurd HA.out (by simp [spec_ReadPhrase.l2])
              | succ k5 =>
               have H := HA.out; clear HA
               simp only [spec_ReadPhrase.l2] at H
               by_cases c24 : x213002_5 ≤ 12
               ·rw [if_pos c24] at H
                have c24b0 := decide_eq_true c24
                clear c24; replace H := Option.bind_eq_some_iff.mp H
                obtain ⟨t215, A250, H⟩ := H
                replace H : ((spec_l23Later.f k5 x6_2 x7_3 x213002_5 0 0 a1).bind fun t216 => (if t215.size + t216.size ≤ 9223372036854775807 then (if (t215 ++ t216).size + 2 ≤ 9223372036854775807 then ((spec_l23Ahead.f a0 ((t215 ++ t216) ++ (⟨#[46, 32]⟩ : ByteArray))).bind fun t217 => (if t217 = true then (spec_ReadPhrase.l3 k5 a0 a1 x6_2 x7_3 0 x6_2 x7_3 x213002_5 0 0) else (spec_ReadPhrase.l2 k5 a0 a1 x6_2 x7_3 x6_2 x7_3 (wrap64 (x213002_5 + 1)) 0 0))) else (none)) else (none))) = some (r1, r2, r3, r4, r5, r6) := H
                have A25 := Aside0.mk A250; clear A250; replace H := Option.bind_eq_some_iff.mp H
                obtain ⟨t216, A260, H⟩ := H
                replace H : (if t215.size + t216.size ≤ 9223372036854775807 then (if (t215 ++ t216).size + 2 ≤ 9223372036854775807 then ((spec_l23Ahead.f a0 ((t215 ++ t216) ++ (⟨#[46, 32]⟩ : ByteArray))).bind fun t217 => (if t217 = true then (spec_ReadPhrase.l3 k5 a0 a1 x6_2 x7_3 0 x6_2 x7_3 x213002_5 0 0) else (spec_ReadPhrase.l2 k5 a0 a1 x6_2 x7_3 x6_2 x7_3 (wrap64 (x213002_5 + 1)) 0 0))) else (none)) else (none)) = some (r1, r2, r3, r4, r5, r6) := H
                have A26 := Aside0.mk A260; clear A260
                obtain ⟨c27, H⟩ := ifS_ H
                have c27b0 := eq_true c27
                have c27b1 : decide (t215.size + t216.size ≤ 9223372036854775807) = true := decide_eq_true c27
                try have c27b2 : (9223372036854775807 < t215.size + t216.size) = False := eq_false (Nat.not_lt.2 c27)
                obtain ⟨c28, H⟩ := ifS_ H
                have c28b0 := eq_true c28
                have c28b1 : decide ((t215 ++ t216).size + 2 ≤ 9223372036854775807) = true := decide_eq_true c28
                try have c28b2 : (9223372036854775807 < (t215 ++ t216).size + 2) = False := eq_false (Nat.not_lt.2 c28)
                (try (have c28b3 := c28b2; simp only [ByteArray.size_append] at c28b3))
                replace H := Option.bind_eq_some_iff.mp H
                obtain ⟨t217, A290, H⟩ := H
                replace H : (if t217 = true then (spec_ReadPhrase.l3 k5 a0 a1 x6_2 x7_3 0 x6_2 x7_3 x213002_5 0 0) else (spec_ReadPhrase.l2 k5 a0 a1 x6_2 x7_3 x6_2 x7_3 (wrap64 (x213002_5 + 1)) 0 0)) = some (r1, r2, r3, r4, r5, r6) := H
                have A29 := Aside0.mk A290; clear A290
                by_cases c30 : t217 = true
                ·subst c30
                 replace H := ifT_ H; have H' := Aside0.mk H; clear H; have hnb31 := NB212_210.out; have hnc31 := NB210_212.out
                 obtain ⟨hcz32_0, hcz32_1, hcz32_2, hcz32_3, hcz32_4, hfz32_0, hfz32_1, hfz32_2, hfz32_3, hfz32_4⟩ := cf5_ BK212
                 try go_wp2
                 replace BK210 := Aside0.mk (blk_drew BK210.out)
                 replace BK212 := Aside0.mk (blk_drew BK212.out)
                 replace HB := Aside0.mk (below_drew1 HB.out)
                 refine start_ (n := 9) (S := fun w' => w'.cell? ⟨gb212, 0, none⟩ = some (.int .i64 x6_2) ∧ w'.cell? ⟨gb212, 1, none⟩ = some (.int .i64 x7_3) ∧ w'.cell? ⟨gb212, 2, none⟩ = some (.int .i64 x213002_5) ∧ w'.cell? ⟨gb212, 3, none⟩ = some (.int .i64 0) ∧ w'.cell? ⟨gb212, 4, none⟩ = some (.int .i64 0)) (ds := []) #[false, false, false, false, false, false, false, false, false] (by kernel_rfl) rfl rfl ⟨(blk_cell BK212.out 0).trans rfl, (blk_cell BK212.out 1).trans rfl, (blk_cell BK212.out 2).trans rfl, (blk_cell BK212.out 3).trans rfl, (blk_cell BK212.out 4).trans rfl⟩ (fun hHeld => ?_); refine with_tabW spec_ReadPhrase.tab14 spec_ReadPhrase.bits14 (fun HT_ HW_ => ?_)
                 generalize wr.drew = w33 at BK210 BK212 HB hHeld ⊢
                 refine pT_ 1 (some 55) #[false, true, false, false, false, false, false, false, false] HT_ ?_
                 refine pT_ 4 (some 58) #[false, true, false, false, true, false, false, false, false] HT_ ?_
                 refine tT_ 0 (some 54) #[true, true, false, false, true, false, false, false, false] HT_ HW_ hHeld ?_ (hy := by rintro w' ⟨s0, s1, s2, s3, s4⟩; go_simp; with_reducible rfl)
                 refine tT_ 3 (some 57) #[true, true, false, true, true, false, false, false, false] HT_ HW_ hHeld ?_ (hy := by rintro w' ⟨s0, s1, s2, s3, s4⟩; go_simp; with_reducible rfl)
                 refine one_ (i := 2) (N := some 56) #[true, true, true, true, true, false, false, false, false] rfl rfl (one_of HT_.out (by kernel_rfl)) (by decide) (fun K hK => ?_)
                 refine goes_ Tryd.func17 (by kernel_rfl) rfl #[.agg #[.int .i64 x6_2, .int .i64 x7_3, .int .i64 x213002_5, .int .i64 0, .int .i64 0], .int .i64 a1] (by rfl) rfl rfl (by (try simp only [List.map_toArray, List.map_cons, List.map_nil]); first | done | rfl | (simp only [List.length_drop, List.length_take]; rfl)) ?_
                 with_reducible refine (spec_l23Wind.calls k5 x6_2 x7_3 x213002_5 0 0 a1 t215 _ A25.out).mono ?_
                 rintro e w34 ⟨rfl, hb⟩
                 refine ⟨_, rfl, ?_⟩
                 replace BK210 := bB_ BK210 hb; replace BK212 := bB_ BK212 hb; replace HB := bS_ HB hb; (try clear hb)
                 refine hK.out _ _ ⟨(blk_cell BK212.out 0).trans rfl, (blk_cell BK212.out 1).trans rfl, (blk_cell BK212.out 2).trans rfl, (blk_cell BK212.out 3).trans rfl, (blk_cell BK212.out 4).trans rfl⟩ (fun hHeld => ?_)
                 clear hK K
                 refine nS_ (some 56) ?_
                 refine one_ (i := 5) (N := some 59) #[true, true, true, true, true, true, false, false, false] rfl rfl (one_of HT_.out (by kernel_rfl)) (by decide) (fun K hK => ?_)
                 refine goes_ Tryd.func18 (by kernel_rfl) rfl #[.agg #[.int .i64 x6_2, .int .i64 x7_3, .int .i64 x213002_5, .int .i64 0, .int .i64 0], .int .i64 a1] (by rfl) rfl rfl (by (try simp only [List.map_toArray, List.map_cons, List.map_nil]); first | done | rfl | (simp only [List.length_drop, List.length_take]; rfl)) ?_
                 with_reducible refine (spec_l23Later.calls k5 x6_2 x7_3 x213002_5 0 0 a1 t216 _ A26.out).mono ?_
                 rintro e w35 ⟨rfl, hb⟩
                 refine ⟨_, rfl, ?_⟩
                 replace BK210 := bB_ BK210 hb; replace BK212 := bB_ BK212 hb; replace HB := bS_ HB hb; (try clear hb)
                 refine hK.out _ _ ⟨(blk_cell BK212.out 0).trans rfl, (blk_cell BK212.out 1).trans rfl, (blk_cell BK212.out 2).trans rfl, (blk_cell BK212.out 3).trans rfl, (blk_cell BK212.out 4).trans rfl⟩ (fun hHeld => ?_)
                 clear hK K
                 refine nS_ (some 59) ?_
                 refine pT_ 6 (some 60) #[true, true, true, true, true, true, true, false, false] HT_ ?_
                 refine pT_ 7 (some 61) #[true, true, true, true, true, true, true, true, false] HT_ ?_
                 refine pT_ 8 (some 9) #[true, true, true, true, true, true, true, true, true] HT_ ?_
                 refine done_ (done_of HT_.out (by kernel_rfl)) ?_
                 try go_wp2_with (first | ((with_reducible refine gate_callee (f := 24) rfl ?_); refine gL_ (some 64) Tryd.func24 #[.string a0, .string ((t215 ++ t216) ++ (⟨#[46, 32]⟩ : ByteArray))] ?_; (with_reducible refine (spec_l23Ahead.calls a0 ((t215 ++ t216) ++ (⟨#[46, 32]⟩ : ByteArray)) true _ A29.out).mono ?_); rintro e w' ⟨rfl, ⟨nd, rfl⟩⟩; refine ⟨_, rfl, ?_⟩))
                 go_loopg [10] k5 (fun kq v10 w' => ∃ (x10_6 : Int) (x211000_6 : Int) (x211001_6 : Int) (x211002_6 : Int) (x211003_6 : Int) (x211004_6 : Int), v10 = .int .i64 x10_6 ∧ Aside0 (spec_ReadPhrase.l3 kq a0 a1 x6_2 x7_3 x10_6 x6_2 x7_3 x213002_5 0 0 = some (r1, r2, r3, r4, r5, r6)) ∧ Aside0 (kq ≤ k5) ∧ Aside0 (w'.heap[gb210]? = some (.cells #[.int .i64 x211000_6, .int .i64 x211001_6, .int .i64 x211002_6, .int .i64 x211003_6, .int .i64 x211004_6] 25 (0, 0))) ∧ Aside0 (w'.heap[gb212]? = some (.cells #[.int .i64 x6_2, .int .i64 x7_3, .int .i64 x213002_5, .int .i64 0, .int .i64 0] 25 (0, 0))) ∧ Aside0 (Below w.heap.size w w'))
                 case atStart => exact ⟨(0), (x211000_5), (x211001_5), (x211002_5), (x211003_5), (x211004_5), (by first | rfl | (simp; done) | (simp [*]; done)), H', ⟨Nat.le_refl _⟩, ⟨bT_ BK210⟩, ⟨bT_ BK212⟩, ⟨sABelo_7⟩⟩
                 case round =>
                  clear H'; (try clear c7); (try clear c9); (try clear c9b0); (try clear c10); (try clear c10b0); (try clear c21); (try clear c24); (try clear c24b0); (try clear c27); (try clear c27b0); (try clear c27b1); (try clear c27b2); (try clear c28); (try clear c28b0); (try clear c28b1); (try clear c28b2); (try clear c30); (try clear hcz14_0); (try clear hcz14_1); (try clear hcz14_2); (try clear hcz14_3); (try clear hcz14_4); (try clear hcz23_0); (try clear hcz23_1); (try clear hcz23_2); (try clear hcz23_3); (try clear hcz23_4); (try clear hcz32_0); (try clear hcz32_1); (try clear hcz32_2); (try clear hcz32_3); (try clear hcz32_4); (try clear hfz14_0); (try clear hfz14_1); (try clear hfz14_2); (try clear hfz14_3); (try clear hfz14_4); (try clear hfz23_0); (try clear hfz23_1); (try clear hfz23_2); (try clear hfz23_3); (try clear hfz23_4); (try clear hfz32_0); (try clear hfz32_1); (try clear hfz32_2); (try clear hfz32_3); (try clear hfz32_4)
                  obtain ⟨x10_6, x211000_6, x211001_6, x211002_6, x211003_6, x211004_6, rfl, HA, HK6, BK210, BK212, HB⟩ := hrel
                  cases gk with
                  | zero => exact absurd HA.out (by simp [spec_ReadPhrase.l3])
                  | succ k6 =>
                   have H := HA.out; clear HA
                   simp only [spec_ReadPhrase.l3] at H
                   by_cases c36 : x10_6 ≤ 3
                   ·rw [if_pos c36] at H
                    have c36b0 := decide_eq_true c36
                    clear c36; have H' := Aside0.mk H; clear H
                    go_wp2
                    go_loopg [11] k6 (fun kq v11 w' => ∃ (x11_7 : Int) (x211000_7 : Int) (x211001_7 : Int) (x211002_7 : Int) (x211003_7 : Int) (x211004_7 : Int), v11 = .int .i64 x11_7 ∧ Aside0 (spec_ReadPhrase.l4 kq a0 a1 x6_2 x7_3 x10_6 x11_7 x6_2 x7_3 x213002_5 0 0 = some (r1, r2, r3, r4, r5, r6)) ∧ Aside0 (kq ≤ k6) ∧ Aside0 (w'.heap[gb210]? = some (.cells #[.int .i64 x211000_7, .int .i64 x211001_7, .int .i64 x211002_7, .int .i64 x211003_7, .int .i64 x211004_7] 25 (0, 0))) ∧ Aside0 (w'.heap[gb212]? = some (.cells #[.int .i64 x6_2, .int .i64 x7_3, .int .i64 x213002_5, .int .i64 0, .int .i64 0] 25 (0, 0))) ∧ Aside0 (Below w.heap.size w w'))
                    case atStart => exact ⟨(0), (x211000_6), (x211001_6), (x211002_6), (x211003_6), (x211004_6), (by first | rfl | (simp; done) | (simp [*]; done)), H', ⟨Nat.le_refl _⟩, ⟨bT_ BK210⟩, ⟨bT_ BK212⟩, ⟨sABelo_7⟩⟩
                    case round =>
                     clear H'; (try clear c7); (try clear c9); (try clear c9b0); (try clear c10); (try clear c10b0); (try clear c21); (try clear c24); (try clear c24b0); (try clear c27); (try clear c27b0); (try clear c27b1); (try clear c27b2); (try clear c28); (try clear c28b0); (try clear c28b1); (try clear c28b2); (try clear c30); (try clear c36); (try clear c36b0); (try clear hcz14_0); (try clear hcz14_1); (try clear hcz14_2); (try clear hcz14_3); (try clear hcz14_4); (try clear hcz23_0); (try clear hcz23_1); (try clear hcz23_2); (try clear hcz23_3); (try clear hcz23_4); (try clear hcz32_0); (try clear hcz32_1); (try clear hcz32_2); (try clear hcz32_3); (try clear hcz32_4); (try clear hfz14_0); (try clear hfz14_1); (try clear hfz14_2); (try clear hfz14_3); (try clear hfz14_4); (try clear hfz23_0); (try clear hfz23_1); (try clear hfz23_2); (try clear hfz23_3); (try clear hfz23_4); (try clear hfz32_0); (try clear hfz32_1); (try clear hfz32_2); (try clear hfz32_3); (try clear hfz32_4)
                     obtain ⟨x11_7, x211000_7, x211001_7, x211002_7, x211003_7, x211004_7, rfl, HA, HK7, BK210, BK212, HB⟩ := hrel
                     cases gk with
                     | zero => exact absurd HA.out (by simp [spec_ReadPhrase.l4])
                     | succ k7 =>
                      have H := HA.out; clear HA
                      simp only [spec_ReadPhrase.l4] at H
                      by_cases c37 : x11_7 ≤ 100
                      ·rw [if_pos c37] at H
                       have c37b0 := decide_eq_true c37
                       clear c37; replace H := Option.bind_eq_some_iff.mp H
                       obtain ⟨t219, A380, H⟩ := H
                       replace H : (if t219 = true then ((spec_Phrase.f k7 x6_2 x7_3 x213002_5 x10_6 x11_7 a1).bind fun t220 => (if t220.toList = a0.toList then (some (x6_2, x7_3, x213002_5, x10_6, x11_7, true)) else (spec_ReadPhrase.l4 k7 a0 a1 x6_2 x7_3 x10_6 (wrap64 (x11_7 + 1)) x6_2 x7_3 x213002_5 0 0))) else (spec_ReadPhrase.l4 k7 a0 a1 x6_2 x7_3 x10_6 (wrap64 (x11_7 + 1)) x6_2 x7_3 x213002_5 0 0)) = some (r1, r2, r3, r4, r5, r6) := H
                       have A38 := Aside0.mk A380; clear A380
                       by_cases c39 : t219 = true
                       ·subst c39
                        replace H := ifT_ H; replace H := Option.bind_eq_some_iff.mp H
                        obtain ⟨t220, A400, H⟩ := H
                        replace H : (if t220.toList = a0.toList then (some (x6_2, x7_3, x213002_5, x10_6, x11_7, true)) else (spec_ReadPhrase.l4 k7 a0 a1 x6_2 x7_3 x10_6 (wrap64 (x11_7 + 1)) x6_2 x7_3 x213002_5 0 0)) = some (r1, r2, r3, r4, r5, r6) := H
                        have A40 := Aside0.mk A400; clear A400
                        by_cases c41 : t220.toList = a0.toList
                        ·rw [if_pos c41] at H
                         have c41b0 := beq_iff_eq.mpr c41
                         have c41b1 := bne_eq_false_iff_eq.mpr c41
                         clear c41
                         simp only [Option.some.injEq, Prod.mk.injEq] at H
                         obtain ⟨rfl, rfl, rfl, rfl, rfl, rfl⟩ := H
                         have hnb42 := NB212_210.out; have hnc42 := NB210_212.out
                         obtain ⟨hcz43_0, hcz43_1, hcz43_2, hcz43_3, hcz43_4, hfz43_0, hfz43_1, hfz43_2, hfz43_3, hfz43_4⟩ := cf5_ BK212
                         go_wp2_with (first | ((with_reducible refine gate_dst (N := 12) rfl ?_); (try (refine gate_guard (by rfl) ?_; dsimp only)); refine box_event ?hg (N := 12) ?hd (cs := #[.int .i64 0, .int .i64 0, .int .i64 0, .int .i64 0, .int .i64 0]) (t := 25) ?hr ?_; (case hd => rfl); (case hg => rfl); (case hr => first | (go_simp; done) | (go_simp; rfl)); intro gb218 hg w44 hbox hb; have BK218 := Aside0.mk (hbox); have GW218 := gE_ HB hg; have GE218 := gE_ HB hg; replace HB := bS_ HB hb; have NB210_218 := nL_ BK210 hg; have NB218_210 := nG_ BK210 hg; replace BK210 := bB_ BK210 hb; have NB212_218 := nL_ BK212 hg; have NB218_212 := nG_ BK212 hg; replace BK212 := bB_ BK212 hb; clear hb hbox hg; have hnb45 := NB218_210.out; have hnc45 := NB210_218.out; have hnb46 := NB218_212.out; have hnc46 := NB212_218.out; obtain ⟨hcz47_0, hcz47_1, hcz47_2, hcz47_3, hcz47_4, hfz47_0, hfz47_1, hfz47_2, hfz47_3, hfz47_4⟩ := cf5_ BK218) | ((with_reducible refine gate_callee (f := 15) rfl ?_); refine gL_ (some 82) Tryd.func15 #[.agg #[.int .i64 x6_2, .int .i64 x7_3, .int .i64 x213002_5, .int .i64 x10_6, .int .i64 x11_7]] ?_; (with_reducible refine (spec_l23Ok.calls x6_2 x7_3 x213002_5 x10_6 x11_7 true _ A38.out).mono ?_); rintro e w48 ⟨rfl, hb⟩; refine ⟨_, rfl, ?_⟩; replace BK210 := bBF_ BK210 NB210_218 hb; replace BK212 := bBF_ BK212 NB212_218 hb; replace BK218 := Aside0.mk (blk_below (g := gb218) (o := .cells #[.int .i64 x6_2, .int .i64 x7_3, .int .i64 x213002_5, .int .i64 x10_6, .int .i64 x11_7] 25 (0, 0)) (bP_ BK218) hb); replace HB := bSF_ HB GE218 hb; (try clear hb); obtain ⟨hcz49_0, hcz49_1, hcz49_2, hcz49_3, hcz49_4, hfz49_0, hfz49_1, hfz49_2, hfz49_3, hfz49_4⟩ := cf5_ BK218) | (go_at_call 6; (with_reducible refine (spec_Phrase.calls k7 x6_2 x7_3 x213002_5 x10_6 x11_7 a1 t220 _ A40.out).mono ?_); rintro e w50 ⟨rfl, hb⟩; replace BK210 := bB_ BK210 hb; replace BK212 := bB_ BK212 hb; replace BK218 := bB_ BK218 hb; replace HB := bS_ HB hb; (try clear hb); obtain ⟨hcz51_0, hcz51_1, hcz51_2, hcz51_3, hcz51_4, hfz51_0, hfz51_1, hfz51_2, hfz51_3, hfz51_4⟩ := cf5_ BK218; obtain ⟨hcz52_0, hcz52_1, hcz52_2, hcz52_3, hcz52_4, hfz52_0, hfz52_1, hfz52_2, hfz52_3, hfz52_4⟩ := cf5_ BK210))
                         refine bodyPost_ret (results_ct rfl _ _ gb210 25 #[.int .i64 x6_2, .int .i64 x7_3, .int .i64 x213002_5, .int .i64 x10_6, .int .i64 x11_7] (0, 0) _ rfl (bP_ BK210) Tryd.underlying25 rfl (by kernel_rfl)) rfl ?_
                         exact ⟨by first | rfl | (simp [errW_none, errW_some] <;> rfl) | (simp [*, errW_none, errW_some] <;> rfl), sABelo_7⟩
                        ·rw [if_neg c41] at H
                         have c41b0 := beq_eq_false_iff_ne.mpr c41
                         have c41b1 := bne_iff_ne.mpr c41
                         have H' := Aside0.mk H; clear H; have hnb53 := NB212_210.out; have hnc53 := NB210_212.out
                         obtain ⟨hcz54_0, hcz54_1, hcz54_2, hcz54_3, hcz54_4, hfz54_0, hfz54_1, hfz54_2, hfz54_3, hfz54_4⟩ := cf5_ BK212
                         go_wp2_with (first | ((with_reducible refine gate_dst (N := 12) rfl ?_); (try (refine gate_guard (by rfl) ?_; dsimp only)); refine box_event ?hg (N := 12) ?hd (cs := #[.int .i64 0, .int .i64 0, .int .i64 0, .int .i64 0, .int .i64 0]) (t := 25) ?hr ?_; (case hd => rfl); (case hg => rfl); (case hr => first | (go_simp; done) | (go_simp; rfl)); intro gb218 hg w55 hbox hb; have BK218 := Aside0.mk (hbox); have GW218 := gE_ HB hg; have GE218 := gE_ HB hg; replace HB := bS_ HB hb; have NB210_218 := nL_ BK210 hg; have NB218_210 := nG_ BK210 hg; replace BK210 := bB_ BK210 hb; have NB212_218 := nL_ BK212 hg; have NB218_212 := nG_ BK212 hg; replace BK212 := bB_ BK212 hb; clear hb hbox hg; have hnb56 := NB218_210.out; have hnc56 := NB210_218.out; have hnb57 := NB218_212.out; have hnc57 := NB212_218.out; obtain ⟨hcz58_0, hcz58_1, hcz58_2, hcz58_3, hcz58_4, hfz58_0, hfz58_1, hfz58_2, hfz58_3, hfz58_4⟩ := cf5_ BK218) | ((with_reducible refine gate_callee (f := 15) rfl ?_); refine gL_ (some 82) Tryd.func15 #[.agg #[.int .i64 x6_2, .int .i64 x7_3, .int .i64 x213002_5, .int .i64 x10_6, .int .i64 x11_7]] ?_; (with_reducible refine (spec_l23Ok.calls x6_2 x7_3 x213002_5 x10_6 x11_7 true _ A38.out).mono ?_); rintro e w59 ⟨rfl, hb⟩; refine ⟨_, rfl, ?_⟩; replace BK210 := bBF_ BK210 NB210_218 hb; replace BK212 := bBF_ BK212 NB212_218 hb; replace BK218 := Aside0.mk (blk_below (g := gb218) (o := .cells #[.int .i64 x6_2, .int .i64 x7_3, .int .i64 x213002_5, .int .i64 x10_6, .int .i64 x11_7] 25 (0, 0)) (bP_ BK218) hb); replace HB := bSF_ HB GE218 hb; (try clear hb); obtain ⟨hcz60_0, hcz60_1, hcz60_2, hcz60_3, hcz60_4, hfz60_0, hfz60_1, hfz60_2, hfz60_3, hfz60_4⟩ := cf5_ BK218) | (go_at_call 6; (with_reducible refine (spec_Phrase.calls k7 x6_2 x7_3 x213002_5 x10_6 x11_7 a1 t220 _ A40.out).mono ?_); rintro e w61 ⟨rfl, hb⟩; replace BK210 := bB_ BK210 hb; replace BK212 := bB_ BK212 hb; replace BK218 := bB_ BK218 hb; replace HB := bS_ HB hb; (try clear hb)))
                         go_roundg k7
                         case measure => have := HJ2.out; have := HK2.out; have := HK3.out; have := HJ10.out; have := HK5.out; have := HK6.out; have := HK7.out; omega
                         case rel => exact ⟨(wrap64 (x11_7 + 1)), (x211000_7), (x211001_7), (x211002_7), (x211003_7), (x211004_7), (by first | rfl | (simp; done) | (simp [*]; done)), H', ⟨by have := HJ2.out; have := HK2.out; have := HK3.out; have := HJ10.out; have := HK5.out; have := HK6.out; have := HK7.out; omega⟩, ⟨bT_ BK210⟩, ⟨bT_ BK212⟩, ⟨sABelo_7⟩⟩
                       ·replace c39 := Bool.eq_false_iff.mpr c39
                        subst c39
                        replace H := ifF_ H; have H' := Aside0.mk H; clear H; have hnb62 := NB212_210.out; have hnc62 := NB210_212.out
                        obtain ⟨hcz63_0, hcz63_1, hcz63_2, hcz63_3, hcz63_4, hfz63_0, hfz63_1, hfz63_2, hfz63_3, hfz63_4⟩ := cf5_ BK212
                        go_wp2_with (first | ((with_reducible refine gate_dst (N := 12) rfl ?_); (try (refine gate_guard (by rfl) ?_; dsimp only)); refine box_event ?hg (N := 12) ?hd (cs := #[.int .i64 0, .int .i64 0, .int .i64 0, .int .i64 0, .int .i64 0]) (t := 25) ?hr ?_; (case hd => rfl); (case hg => rfl); (case hr => first | (go_simp; done) | (go_simp; rfl)); intro gb218 hg w64 hbox hb; have BK218 := Aside0.mk (hbox); have GW218 := gE_ HB hg; have GE218 := gE_ HB hg; replace HB := bS_ HB hb; have NB210_218 := nL_ BK210 hg; have NB218_210 := nG_ BK210 hg; replace BK210 := bB_ BK210 hb; have NB212_218 := nL_ BK212 hg; have NB218_212 := nG_ BK212 hg; replace BK212 := bB_ BK212 hb; clear hb hbox hg; have hnb65 := NB218_210.out; have hnc65 := NB210_218.out; have hnb66 := NB218_212.out; have hnc66 := NB212_218.out; obtain ⟨hcz67_0, hcz67_1, hcz67_2, hcz67_3, hcz67_4, hfz67_0, hfz67_1, hfz67_2, hfz67_3, hfz67_4⟩ := cf5_ BK218) | ((with_reducible refine gate_callee (f := 15) rfl ?_); refine gL_ (some 82) Tryd.func15 #[.agg #[.int .i64 x6_2, .int .i64 x7_3, .int .i64 x213002_5, .int .i64 x10_6, .int .i64 x11_7]] ?_; (with_reducible refine (spec_l23Ok.calls x6_2 x7_3 x213002_5 x10_6 x11_7 false _ A38.out).mono ?_); rintro e w68 ⟨rfl, hb⟩; refine ⟨_, rfl, ?_⟩; replace BK210 := bBF_ BK210 NB210_218 hb; replace BK212 := bBF_ BK212 NB212_218 hb; replace BK218 := Aside0.mk (blk_below (g := gb218) (o := .cells #[.int .i64 x6_2, .int .i64 x7_3, .int .i64 x213002_5, .int .i64 x10_6, .int .i64 x11_7] 25 (0, 0)) (bP_ BK218) hb); replace HB := bSF_ HB GE218 hb; (try clear hb)))
                        go_roundg k7
                        case measure => have := HJ2.out; have := HK2.out; have := HK3.out; have := HJ10.out; have := HK5.out; have := HK6.out; have := HK7.out; omega
                        case rel => exact ⟨(wrap64 (x11_7 + 1)), (x211000_7), (x211001_7), (x211002_7), (x211003_7), (x211004_7), (by first | rfl | (simp; done) | (simp [*]; done)), H', ⟨by have := HJ2.out; have := HK2.out; have := HK3.out; have := HJ10.out; have := HK5.out; have := HK6.out; have := HK7.out; omega⟩, ⟨bT_ BK210⟩, ⟨bT_ BK212⟩, ⟨sABelo_7⟩⟩
                      ·rw [if_neg c37] at H
                       have c37b0 := decide_eq_false c37
                       clear c37; have H' := Aside0.mk H; clear H
                       go_wp2
                       go_roundg k7
                       case measure => have := HJ2.out; have := HK2.out; have := HK3.out; have := HJ10.out; have := HK5.out; have := HK6.out; have := HK7.out; omega
                       case rel => exact ⟨(wrap64 (x10_6 + 1)), (x211000_7), (x211001_7), (x211002_7), (x211003_7), (x211004_7), (by first | rfl | (simp; done) | (simp [*]; done)), H', ⟨by have := HJ2.out; have := HK2.out; have := HK3.out; have := HJ10.out; have := HK5.out; have := HK6.out; have := HK7.out; omega⟩, ⟨bT_ BK210⟩, ⟨bT_ BK212⟩, ⟨sABelo_7⟩⟩
                   ·rw [if_neg c36] at H
                    have c36b0 := decide_eq_false c36
                    clear c36; have H' := Aside0.mk H; clear H; have hnb69 := NB212_210.out; have hnc69 := NB210_212.out
                    obtain ⟨hcz70_0, hcz70_1, hcz70_2, hcz70_3, hcz70_4, hfz70_0, hfz70_1, hfz70_2, hfz70_3, hfz70_4⟩ := cf5_ BK212
                    go_wp2
                    go_roundg k6
                    case measure => have := HJ2.out; have := HK2.out; have := HK3.out; have := HJ10.out; have := HK5.out; have := HK6.out; omega
                    case rel => exact ⟨(x211000_6), (x211001_6), (x211002_6), (x211003_6), (x211004_6), (wrap64 (x213002_5 + 1)), H', ⟨by have := HJ2.out; have := HK2.out; have := HK3.out; have := HJ10.out; have := HK5.out; have := HK6.out; omega⟩, ⟨bF_ BK210 NB210_212⟩, ⟨bP_ BK212⟩, ⟨sABelo_7⟩⟩
                ·replace c30 := Bool.eq_false_iff.mpr c30
                 subst c30
                 replace H := ifF_ H; have H' := Aside0.mk H; clear H; have hnb71 := NB212_210.out; have hnc71 := NB210_212.out
                 obtain ⟨hcz72_0, hcz72_1, hcz72_2, hcz72_3, hcz72_4, hfz72_0, hfz72_1, hfz72_2, hfz72_3, hfz72_4⟩ := cf5_ BK212
                 try go_wp2
                 replace BK210 := Aside0.mk (blk_drew BK210.out)
                 replace BK212 := Aside0.mk (blk_drew BK212.out)
                 replace HB := Aside0.mk (below_drew1 HB.out)
                 refine start_ (n := 9) (S := fun w' => w'.cell? ⟨gb212, 0, none⟩ = some (.int .i64 x6_2) ∧ w'.cell? ⟨gb212, 1, none⟩ = some (.int .i64 x7_3) ∧ w'.cell? ⟨gb212, 2, none⟩ = some (.int .i64 x213002_5) ∧ w'.cell? ⟨gb212, 3, none⟩ = some (.int .i64 0) ∧ w'.cell? ⟨gb212, 4, none⟩ = some (.int .i64 0)) (ds := []) #[false, false, false, false, false, false, false, false, false] (by kernel_rfl) rfl rfl ⟨(blk_cell BK212.out 0).trans rfl, (blk_cell BK212.out 1).trans rfl, (blk_cell BK212.out 2).trans rfl, (blk_cell BK212.out 3).trans rfl, (blk_cell BK212.out 4).trans rfl⟩ (fun hHeld => ?_); refine with_tabW spec_ReadPhrase.tab14 spec_ReadPhrase.bits14 (fun HT_ HW_ => ?_)
                 generalize wr.drew = w73 at BK210 BK212 HB hHeld ⊢
                 refine pT_ 1 (some 55) #[false, true, false, false, false, false, false, false, false] HT_ ?_
                 refine pT_ 4 (some 58) #[false, true, false, false, true, false, false, false, false] HT_ ?_
                 refine tT_ 0 (some 54) #[true, true, false, false, true, false, false, false, false] HT_ HW_ hHeld ?_ (hy := by rintro w' ⟨s0, s1, s2, s3, s4⟩; go_simp; with_reducible rfl)
                 refine tT_ 3 (some 57) #[true, true, false, true, true, false, false, false, false] HT_ HW_ hHeld ?_ (hy := by rintro w' ⟨s0, s1, s2, s3, s4⟩; go_simp; with_reducible rfl)
                 refine one_ (i := 2) (N := some 56) #[true, true, true, true, true, false, false, false, false] rfl rfl (one_of HT_.out (by kernel_rfl)) (by decide) (fun K hK => ?_)
                 refine goes_ Tryd.func17 (by kernel_rfl) rfl #[.agg #[.int .i64 x6_2, .int .i64 x7_3, .int .i64 x213002_5, .int .i64 0, .int .i64 0], .int .i64 a1] (by rfl) rfl rfl (by (try simp only [List.map_toArray, List.map_cons, List.map_nil]); first | done | rfl | (simp only [List.length_drop, List.length_take]; rfl)) ?_
                 with_reducible refine (spec_l23Wind.calls k5 x6_2 x7_3 x213002_5 0 0 a1 t215 _ A25.out).mono ?_
                 rintro e w74 ⟨rfl, hb⟩
                 refine ⟨_, rfl, ?_⟩
                 replace BK210 := bB_ BK210 hb; replace BK212 := bB_ BK212 hb; replace HB := bS_ HB hb; (try clear hb)
                 refine hK.out _ _ ⟨(blk_cell BK212.out 0).trans rfl, (blk_cell BK212.out 1).trans rfl, (blk_cell BK212.out 2).trans rfl, (blk_cell BK212.out 3).trans rfl, (blk_cell BK212.out 4).trans rfl⟩ (fun hHeld => ?_)
                 clear hK K
                 refine nS_ (some 56) ?_
                 refine one_ (i := 5) (N := some 59) #[true, true, true, true, true, true, false, false, false] rfl rfl (one_of HT_.out (by kernel_rfl)) (by decide) (fun K hK => ?_)
                 refine goes_ Tryd.func18 (by kernel_rfl) rfl #[.agg #[.int .i64 x6_2, .int .i64 x7_3, .int .i64 x213002_5, .int .i64 0, .int .i64 0], .int .i64 a1] (by rfl) rfl rfl (by (try simp only [List.map_toArray, List.map_cons, List.map_nil]); first | done | rfl | (simp only [List.length_drop, List.length_take]; rfl)) ?_
                 with_reducible refine (spec_l23Later.calls k5 x6_2 x7_3 x213002_5 0 0 a1 t216 _ A26.out).mono ?_
                 rintro e w75 ⟨rfl, hb⟩
                 refine ⟨_, rfl, ?_⟩
                 replace BK210 := bB_ BK210 hb; replace BK212 := bB_ BK212 hb; replace HB := bS_ HB hb; (try clear hb)
                 refine hK.out _ _ ⟨(blk_cell BK212.out 0).trans rfl, (blk_cell BK212.out 1).trans rfl, (blk_cell BK212.out 2).trans rfl, (blk_cell BK212.out 3).trans rfl, (blk_cell BK212.out 4).trans rfl⟩ (fun hHeld => ?_)
                 clear hK K
                 refine nS_ (some 59) ?_
                 refine pT_ 6 (some 60) #[true, true, true, true, true, true, true, false, false] HT_ ?_
                 refine pT_ 7 (some 61) #[true, true, true, true, true, true, true, true, false] HT_ ?_
                 refine pT_ 8 (some 9) #[true, true, true, true, true, true, true, true, true] HT_ ?_
                 refine done_ (done_of HT_.out (by kernel_rfl)) ?_
                 try go_wp2_with (first | ((with_reducible refine gate_callee (f := 24) rfl ?_); refine gL_ (some 64) Tryd.func24 #[.string a0, .string ((t215 ++ t216) ++ (⟨#[46, 32]⟩ : ByteArray))] ?_; (with_reducible refine (spec_l23Ahead.calls a0 ((t215 ++ t216) ++ (⟨#[46, 32]⟩ : ByteArray)) false _ A29.out).mono ?_); rintro e w' ⟨rfl, ⟨nd, rfl⟩⟩; refine ⟨_, rfl, ?_⟩; (try (rw [drewN_self w75]; generalize hq_ : World.drewN w75 _ = w75; have n0_ : Aside0 (w75.heap[gb210]? = some (.cells #[.int .i64 x211000_5, .int .i64 x211001_5, .int .i64 x211002_5, .int .i64 x211003_5, .int .i64 x211004_5] 25 (0, 0))) := ⟨by rw [← hq_]; exact (bT_ BK210)⟩; have n1_ : Aside0 (w75.heap[gb212]? = some (.cells #[.int .i64 x6_2, .int .i64 x7_3, .int .i64 x213002_5, .int .i64 0, .int .i64 0] 25 (0, 0))) := ⟨by rw [← hq_]; exact (bT_ BK212)⟩; have n2_ : Aside0 (Below w.heap.size w w75) := ⟨by rw [← hq_]; exact sABelo_7⟩; clear BK210 BK212 HB hq_; have BK210 := n0_; have BK212 := n1_; have HB := n2_; clear n0_ n1_ n2_)); obtain ⟨hcz76_0, hcz76_1, hcz76_2, hcz76_3, hcz76_4, hfz76_0, hfz76_1, hfz76_2, hfz76_3, hfz76_4⟩ := cf5_ BK212))
                 go_roundg k5
                 case measure => have := HJ2.out; have := HK2.out; have := HK3.out; have := HJ10.out; have := HK5.out; omega
                 case rel => exact ⟨(x211000_5), (x211001_5), (x211002_5), (x211003_5), (x211004_5), (wrap64 (x213002_5 + 1)), H', ⟨by have := HJ2.out; have := HK2.out; have := HK3.out; have := HJ10.out; have := HK5.out; omega⟩, ⟨bF_ BK210 NB210_212⟩, ⟨bP_ BK212⟩, ⟨sABelo_7⟩⟩
               ·rw [if_neg c24] at H
                have c24b0 := decide_eq_false c24
                clear c24; have H' := Aside0.mk H; clear H; have hnb77 := NB212_210.out; have hnc77 := NB210_212.out
                obtain ⟨hcz78_0, hcz78_1, hcz78_2, hcz78_3, hcz78_4, hfz78_0, hfz78_1, hfz78_2, hfz78_3, hfz78_4⟩ := cf5_ BK212
                go_wp2
                go_roundg k5
                case measure => have := HJ2.out; have := HK2.out; have := HK3.out; have := HJ10.out; have := HK5.out; omega
                case rel => exact ⟨(wrap64 (x7_3 + 1)), (x211000_5), (x211001_5), (x211002_5), (x211003_5), (x211004_5), (by first | rfl | (simp; done) | (simp [*]; done)), H', ⟨by have := HJ2.out; have := HK2.out; have := HK3.out; have := HJ10.out; have := HK5.out; omega⟩, ⟨bT_ BK210⟩, ⟨sABelo_7⟩⟩
         ·rw [if_neg c10] at H
          have c10b0 := decide_eq_false c10
          clear c10; have H' := Aside0.mk H; clear H
          go_wp2
          go_roundg k3
          case measure => have := HJ2.out; have := HK2.out; have := HK3.out; omega
          case rel => exact ⟨(wrap64 (x6_2 + 1)), (x211000_3), (x211001_3), (x211002_3), (x211003_3), (x211004_3), (by first | rfl | (simp; done) | (simp [*]; done)), H', ⟨by have := HJ2.out; have := HK2.out; have := HK3.out; omega⟩, ⟨bT_ BK210⟩, ⟨sABelo_7⟩⟩
      ·rw [if_neg c9] at H
       have c9b0 := decide_eq_false c9
       clear c9
       simp only [Option.some.injEq, Prod.mk.injEq] at H
       obtain ⟨rfl, rfl, rfl, rfl, rfl, rfl⟩ := H
       obtain ⟨hcz79_0, hcz79_1, hcz79_2, hcz79_3, hcz79_4, hfz79_0, hfz79_1, hfz79_2, hfz79_3, hfz79_4⟩ := cf5_ BK210
       go_wp2
       refine bodyPost_ret (results_ct rfl _ _ gb210 25 #[.int .i64 0, .int .i64 0, .int .i64 0, .int .i64 0, .int .i64 0] (0, 0) _ rfl (bP_ BK210) Tryd.underlying25 rfl (by kernel_rfl)) rfl ?_
       exact ⟨by first | rfl | (simp [errW_none, errW_some] <;> rfl) | (simp [*, errW_none, errW_some] <;> rfl), sABelo_7⟩

end Go.Proofs.YtllkijlmjapleaaDoor.QFnPhrases
