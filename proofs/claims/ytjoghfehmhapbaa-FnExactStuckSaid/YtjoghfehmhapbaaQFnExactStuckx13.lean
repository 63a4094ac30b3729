-- Written by a program of this session out of the printer's texts and contracts of its own.
import Derived.Test.YtjoghfehmhapbaaSq
import Derived.Test.YtjoghfehmhapbaaQFnExactStuckx0
import Derived.Test.YtjoghfehmhapbaaQFnExactStuckx12
namespace Go.Proofs.Ytjoghfehmhapbaa.QFnExactStuck
open Go.RowKit Go.Proofs.YtjoghfehmhapbaaW.PrintWords Go.Proofs.YtjoghfehmhapbaaW.PrintLast Go.Proofs.YtjoghfehmhapbaaW.PrintMore Go.Proofs.Ytjoghfehmhapbaa.Sq
attribute [local go_sem] max2_int min2_int max_two min_two max_three min_three max_four min_four   -- for this text's walks alone
set_option linter.unusedVariables false
set_option linter.unusedSimpArgs false
theorem sABelo_13 {b : Nat} {w W : World} (h : Below b w W := by repeat (first | (with_reducible first | exact Aside0.out (by assumption) | apply below_alloc | apply pw_below_drewN | apply below_drew1 | refine below_set ?_ (Aside0.out (by assumption))) | exact Aside0.out (by assumption))) : Below b w W := h

/-! ### spec_Stuck: function 35 -/
mutual
def spec_Stuck.l0 : Nat → List Int → Int → List (S39) → List Int → Int → List (S43) → Option (List Int)
 | 0, _, _, _, _, _, _ => none
 | k + 1, x3, x4, x247000, x247001, x247002, x247003 => if x4 < (x247003.length : Int) then (if 0 ≤ x4 then (if x4 < (x247000.length : Int) then (spec_Stuck.l1 k x3 x4 (((rd_T43 x247003 x4).f0) == 3) ((rd_T39 x247000 x4).f0) 0 x247000 x247001 x247002 x247003) else (none)) else (none)) else (some x3)
def spec_Stuck.l1 : Nat → List Int → Int → Bool → List Int → Int → List (S39) → List Int → Int → List (S43) → Option (List Int)
 | 0, _, _, _, _, _, _, _, _, _ => none
 | k + 1, x3, x4, x5, x6, x7, x247000, x247001, x247002, x247003 => if x7 < (x6.length : Int) then (spec_Stuck.l2 k x3 x4 x5 x6 x7 0 x247000 x247001 x247002 x247003) else (if x5 = true then (if x3.length < 17592186044416 then (spec_Stuck.l0 k (x3 ++ [wrap64 (x4 + 1)]) (wrap64 (x4 + 1)) x247000 x247001 x247002 x247003) else (none)) else (spec_Stuck.l0 k x3 (wrap64 (x4 + 1)) x247000 x247001 x247002 x247003))
def spec_Stuck.l2 : Nat → List Int → Int → Bool → List Int → Int → Int → List (S39) → List Int → Int → List (S43) → Option (List Int)
 | 0, _, _, _, _, _, _, _, _, _, _ => none
 | k + 1, x3, x4, x5, x6, x7, x8, x247000, x247001, x247002, x247003 => if x8 < (x3.length : Int) then (if x5 = true then (spec_Stuck.l2 k x3 x4 true x6 x7 (wrap64 (x8 + 1)) x247000 x247001 x247002 x247003) else (if 0 ≤ x8 then (if 0 ≤ x7 then (if x7 < (x6.length : Int) then (spec_Stuck.l2 k x3 x4 ((rd x3 x8) == (rd x6 x7)) x6 x7 (wrap64 (x8 + 1)) x247000 x247001 x247002 x247003) else (none)) else (none)) else (none))) else (spec_Stuck.l1 k x3 x4 x5 x6 (wrap64 (x7 + 1)) x247000 x247001 x247002 x247003)
end
def spec_Stuck.f (k : Nat) (l0_0 : List (S39)) (l0_1 : List Int) (a0_2 : Int) (l0_3 : List (S43)) : Option (List Int) := (some (([] : List Int) : List Int)).bind fun y247 => ((spec_l24Ok.f k l0_0 l0_1 a0_2 l0_3).bind fun t250 => (if t250 = true then (spec_Stuck.l0 k y247 0 l0_0 l0_1 a0_2 l0_3) else (some y247)))
theorem spec_Stuck.mono_l : ∀ k, (∀ y0 y1 y2 y3 y4 y5, LeO (spec_Stuck.l0 k y0 y1 y2 y3 y4 y5) (spec_Stuck.l0 (k + 1) y0 y1 y2 y3 y4 y5)) ∧ (∀ y0 y1 y2 y3 y4 y5 y6 y7 y8, LeO (spec_Stuck.l1 k y0 y1 y2 y3 y4 y5 y6 y7 y8) (spec_Stuck.l1 (k + 1) y0 y1 y2 y3 y4 y5 y6 y7 y8)) ∧ (∀ y0 y1 y2 y3 y4 y5 y6 y7 y8 y9, LeO (spec_Stuck.l2 k y0 y1 y2 y3 y4 y5 y6 y7 y8 y9) (spec_Stuck.l2 (k + 1) y0 y1 y2 y3 y4 y5 y6 y7 y8 y9))
 | 0 => ⟨fun _ _ _ _ _ _ r h => by simp [spec_Stuck.l0] at h, fun _ _ _ _ _ _ _ _ _ r h => by simp [spec_Stuck.l1] at h, fun _ _ _ _ _ _ _ _ _ _ r h => by simp [spec_Stuck.l2] at h⟩
 | k + 1 => by
  obtain ⟨ih0, ih1, ih2⟩ := spec_Stuck.mono_l k
  refine ⟨?_, ?_, ?_⟩
  intro y0 y1 y2 y3 y4 y5; unfold spec_Stuck.l0; rotate_left
  intro y0 y1 y2 y3 y4 y5 y6 y7 y8; unfold spec_Stuck.l1; rotate_left
  intro y0 y1 y2 y3 y4 y5 y6 y7 y8 y9; unfold spec_Stuck.l2; rotate_left
  all_goals repeat' first
  | (with_reducible exact ih0 _ _ _ _ _ _)
  | (with_reducible exact ih1 _ _ _ _ _ _ _ _ _)
  | (with_reducible exact ih2 _ _ _ _ _ _ _ _ _ _)
  | (with_reducible exact spec_l24Ok.mono _ _ _ _ _)
  | (with_reducible exact LeO.refl _)
  | (with_reducible exact LeO.none _)
  | (with_reducible refine LeO.ite ?_ ?_)
  | (with_reducible refine LeO.bind ?_ (fun _ => ?_))
  | exact ih0 _ _ _ _ _ _
  | exact ih1 _ _ _ _ _ _ _ _ _
  | exact ih2 _ _ _ _ _ _ _ _ _ _
  | exact spec_l24Ok.mono _ _ _ _ _
  | exact LeO.none _
  | refine LeO.ite ?_ ?_
  | refine LeO.bind ?_ (fun _ => ?_)
theorem spec_Stuck.mono : ∀ a0 a1 a2 a3 k, LeO (spec_Stuck.f k a0 a1 a2 a3) (spec_Stuck.f (k + 1) a0 a1 a2 a3) := by
 intro a0 a1 a2 a3 k
 obtain ⟨ih0, ih1, ih2⟩ := spec_Stuck.mono_l k
 unfold spec_Stuck.f
 repeat' first
   | (with_reducible exact ih0 _ _ _ _ _ _)
   | (with_reducible exact ih1 _ _ _ _ _ _ _ _ _)
   | (with_reducible exact ih2 _ _ _ _ _ _ _ _ _ _)
   | (with_reducible exact spec_l24Ok.mono _ _ _ _ _)
   | (with_reducible exact LeO.refl _)
   | (with_reducible exact LeO.none _)
   | (with_reducible refine LeO.ite ?_ ?_)
   | (with_reducible refine LeO.bind ?_ (fun _ => ?_))
   | exact ih0 _ _ _ _ _ _
   | exact ih1 _ _ _ _ _ _ _ _ _
   | exact ih2 _ _ _ _ _ _ _ _ _ _
   | exact spec_l24Ok.mono _ _ _ _ _
   | exact LeO.none _
   | refine LeO.ite ?_ ?_
   | refine LeO.bind ?_ (fun _ => ?_)
set_option maxHeartbeats 8000000 in
set_option maxRecDepth 100000 in
theorem spec_Stuck.calls (k : Nat) (A0_0 : Option Addr) (c0_0 : Nat) (l0_0 : List (S39)) (A0_1 : Option Addr) (c0_1 : Nat) (l0_1 : List Int) (a0_2 : Int) (A0_3 : Option Addr) (c0_3 : Nat) (l0_3 : List (S43)) (r : List Int) (w : World) (hr0_0 : Kd.C k39 w A0_0 l0_0.length l0_0) (hc0_0 : l0_0.length ≤ c0_0) (hr0_1 : Kd.C (Kd.int .i64) w A0_1 l0_1.length l0_1) (hc0_1 : l0_1.length ≤ c0_1) (hr0_3 : Kd.C k43 w A0_3 l0_3.length l0_3) (hc0_3 : l0_3.length ≤ c0_3) (h : spec_Stuck.f k l0_0 l0_1 a0_2 l0_3 = some r) :
  Calls Try.prog 35 #[.agg #[.slice A0_0 l0_0.length c0_0, .slice A0_1 l0_1.length c0_1, .int .i64 a0_2, .slice A0_3 l0_3.length c0_3]] w fun e w' => ∃ v0_ : Value, e = .returned (v0_) ∧ Kd.R (Kd.int .i64) 2 w' w.heap.size (fun _ => True) v0_ r ∧ Below w.heap.size w w' := by
 have hu31 := Try.underlying31; have HR0_0 := Aside0.mk hr0_0; have HC0_0 := Aside0.mk hc0_0; clear hr0_0 hc0_0; have HR0_1 := Aside0.mk hr0_1; have HC0_1 := Aside0.mk hc0_1; clear hr0_1 hc0_1; have HR0_3 := Aside0.mk hr0_3; have HC0_3 := Aside0.mk hc0_3; clear hr0_3 hc0_3
 have HB := Aside0.mk (Below.refl w.heap.size w)
 have H : ((some (([] : List Int) : List Int)).bind fun y247 => ((spec_l24Ok.f k l0_0 l0_1 a0_2 l0_3).bind fun t250 => (if t250 = true then (spec_Stuck.l0 k y247 0 l0_0 l0_1 a0_2 l0_3) else (some y247)))) = some r := h
 clear h
 obtain ⟨y247, hy247⟩ : ∃ y_ : List Int, y_ = (([] : List Int)) := ⟨_, rfl⟩
 replace H : ((spec_l24Ok.f k l0_0 l0_1 a0_2 l0_3).bind fun t250 => (if t250 = true then (spec_Stuck.l0 k y247 0 l0_0 l0_1 a0_2 l0_3) else (some y247))) = some r := by first | (rw [hy247]; with_reducible exact H) | (have H2_ := (Option.bind_some _ _).symm.trans H; rw [hy247]; with_reducible exact H2_) | (have H2_ := (Option.bind_some _ _).symm.trans H; with_reducible exact H2_) | with_reducible exact H | (rw [hy247]; exact H) | exact H
 have Ny247 := Aside0.mk hy247; clear hy247; replace H := Option.bind_eq_some_iff.mp H
 obtain ⟨t250, A20, H⟩ := H
 replace H : (if t250 = true then (spec_Stuck.l0 k y247 0 l0_0 l0_1 a0_2 l0_3) else (some y247)) = some r := H
 have A2 := Aside0.mk A20; clear A20
 by_cases c3 : t250 = true
 ·subst c3
  replace H := ifT_ H; have H' := Aside0.mk H; clear H
  go_enter Try.func35, Try.ntmps35
  have START_ := True.intro
  repeat ((first | go_quiet (fail) | clear START_); try go_wp2_with (first | ((with_reducible refine gate_dst (N := 1) rfl ?_); refine box_event ?hg (N := 1) ?hd (cs := #[.slice A0_0 l0_0.length c0_0, .slice A0_1 l0_1.length c0_1, .int .i64 a0_2, .slice A0_3 l0_3.length c0_3]) (t := 31) ?hr ?_; (case hd => rfl); (case hg => rfl); (case hr => first | (go_simp; done) | (go_simp; rfl)); intro gb246 hg w4 hbox hb; have BK246 := Aside0.mk (hbox); have GW246 := gE_ HB hg; have GE246 := gE_ HB hg; replace HB := bS_ HB hb; clear hb hbox hg) | ((with_reducible refine gate_dst (N := 9) rfl ?_); refine Kd.R_lit (Kd.int .i64) _ 2 ?hg (N := 9) ?hd (xs := ([] : List Int)) (inner := []) (ok := fun _ => True) (okp := fun _ => True) ?hr ?hp (fun _ hk => hk) trivial (Below.refl _ _) (Nat.le_refl _) (by simp) ?_; (case hd => rfl); (case hg => rfl); (case hr => first | (go_simp; done) | (go_simp; rfl)); (case hp => exact (Reps.none _ _)); intro v248 w5 ho6 hb hg_ hnew_; clear hg_ hnew_; (first | rw [← Ny247.out] at ho6 | (simp only [Int.reduceToNat] at ho6; rw [← Ny247.out] at ho6)); have HO249 := rL_ ho6 HB; replace BK246 := bB_ BK246 hb; replace HB := bS_ HB hb; clear hb ho6; obtain ⟨hcz7_0, hcz7_1, hcz7_2, hcz7_3, hfz7_0, hfz7_1, hfz7_2, hfz7_3⟩ := cf4_ BK246) | (go_at_call 58; (with_reducible refine (spec_l24Ok.calls k _ _ l0_0 _ _ l0_1 a0_2 _ _ l0_3 true _ ?side1 ?side2 ?side3 ?side4 ?side5 ?side6 A2.out).mono ?_); (case side1 => exact cB_ HR0_0 HB); (case side2 => exact HC0_0.out); (case side3 => exact cB_ HR0_1 HB); (case side4 => exact HC0_1.out); (case side5 => exact cB_ HR0_3 HB); (case side6 => exact HC0_3.out); rintro e w8 ⟨rfl, hb⟩; replace HO249 := rB_ HO249 hb; replace BK246 := bB_ BK246 hb; replace HB := bS_ HB hb; (try clear hb); (try clear hk))))
  go_loopg [3, 4] k (fun kq v3 v4 w' => ∃ (x3_1 : List Int) (x4_1 : Int), v4 = .int .i64 x4_1 ∧ Aside0 (spec_Stuck.l0 kq x3_1 x4_1 l0_0 l0_1 a0_2 l0_3 = some r) ∧ Aside0 (kq ≤ k) ∧ Aside0 (Kd.R (Kd.int .i64) 2 w' w.heap.size (fun _ => True) v3 x3_1) ∧ Aside0 (w'.heap[gb246]? = some (.cells #[(.slice A0_0 l0_0.length c0_0), (.slice A0_1 l0_1.length c0_1), .int .i64 a0_2, (.slice A0_3 l0_3.length c0_3)] 31 (0, 0))) ∧ Aside0 (Below w.heap.size w w'))
  case atStart => exact ⟨(y247), (0), (by first | rfl | (simp; done) | (simp [*]; done)), H', ⟨Nat.le_refl _⟩, ⟨rT_ HO249⟩, ⟨bT_ BK246⟩, ⟨sABelo_13⟩⟩
  case round =>
   clear H'; (try clear c3); (try clear hcz7_0); (try clear hcz7_1); (try clear hcz7_2); (try clear hcz7_3); (try clear hfz7_0); (try clear hfz7_1); (try clear hfz7_2); (try clear hfz7_3)
   obtain ⟨x3_1, x4_1, rfl, HA, HK1, HO_3, BK246, HB⟩ := hrel
   cases gk with
   | zero => exact absurd HA.out (by simp [spec_Stuck.l0])
   | succ k1 =>
    have H := HA.out; clear HA
    simp only [spec_Stuck.l0] at H
    by_cases c9 : x4_1 < (l0_3.length : Int)
    ·rw [if_pos c9] at H
     have c9b0 := decide_eq_true c9
     clear c9
     obtain ⟨c10, H⟩ := ifS_ H
     have c10b0 : decide (0 ≤ x4_1) = true := decide_eq_true c10
     clear c10
     obtain ⟨c11, H⟩ := ifS_ H
     have c11b0 : decide (x4_1 < (l0_0.length : Int)) = true := decide_eq_true c11
     clear c11; have H' := Aside0.mk H; clear H
     obtain ⟨hcz12_0, hcz12_1, hcz12_2, hcz12_3, hfz12_0, hfz12_1, hfz12_2, hfz12_3⟩ := cf4_ BK246
     have p251 : 0 ≤ (x4_1 : Int) := dA_
     have q251 : x4_1 < (l0_3.length : Int) := dA_
     obtain ⟨ad251, e251, hx251_0, hx251_1⟩ := at_T43 HR0_3.out x4_1 p251 q251
     cases e251
     replace hx251_0 := hX_ HB hx251_0
     replace hx251_1 := hX_ HB hx251_1
     replace p251 := eq_true p251; replace q251 := eq_true q251
     have p252 : 0 ≤ (x4_1 : Int) := dA_
     have q252 : x4_1 < (l0_0.length : Int) := dA_
     obtain ⟨ad252, A252_0, c252_0, e252, hx252_0, hx252_1, hx252_2, hx252_3, hl252_0, hi252_0⟩ := at_T39 HR0_0.out x4_1 p252 q252
     cases e252
     replace hx252_0 := hX_ HB hx252_0
     replace hx252_1 := hX_ HB hx252_1
     replace hx252_2 := hX_ HB hx252_2
     replace hx252_3 := hX_ HB hx252_3
     have HR252_0 := Aside0.mk hi252_0; have HC252_0 := Aside0.mk hl252_0; clear hi252_0 hl252_0; replace p252 := eq_true p252; replace q252 := eq_true q252
     go_wp2
     repeat (go_quiet (fail); try go_wp2)
     go_loopg [5, 7] k1 (fun kq v5 v7 w' => ∃ (x5_2 : Bool) (x7_2 : Int), v5 = .bool x5_2 ∧ v7 = .int .i64 x7_2 ∧ Aside0 (spec_Stuck.l1 kq x3_1 x4_1 x5_2 ((rd_T39 l0_0 x4_1).f0) x7_2 l0_0 l0_1 a0_2 l0_3 = some r) ∧ Aside0 (kq ≤ k1) ∧ Aside0 (Kd.R (Kd.int .i64) 2 w' w.heap.size (fun _ => True) u3 x3_1) ∧ Aside0 (w'.heap[gb246]? = some (.cells #[(.slice (some ad252) l0_0.length c0_0), (.slice A0_1 l0_1.length c0_1), .int .i64 a0_2, (.slice (some ad251) l0_3.length c0_3)] 31 (0, 0))) ∧ Aside0 (Below w.heap.size w w'))
     case atStart => exact ⟨((((rd_T43 l0_3 x4_1).f0) == 3)), (0), (by first | rfl | (simp; done) | (simp [*]; done)), (by first | rfl | (simp; done) | (simp [*]; done)), H', ⟨Nat.le_refl _⟩, ⟨rT_ HO_3⟩, ⟨bT_ BK246⟩, ⟨sABelo_13⟩⟩
     case round =>
      clear H'; (try clear c3); (try clear c9); (try clear c9b0); (try clear c10); (try clear c10b0); (try clear c11); (try clear c11b0); (try clear hcz12_0); (try clear hcz12_1); (try clear hcz12_2); (try clear hcz12_3); (try clear hcz7_0); (try clear hcz7_1); (try clear hcz7_2); (try clear hcz7_3); (try clear hfz12_0); (try clear hfz12_1); (try clear hfz12_2); (try clear hfz12_3); (try clear hfz7_0); (try clear hfz7_1); (try clear hfz7_2); (try clear hfz7_3); (try clear hx251_0); (try clear hx251_1); (try clear hx252_0); (try clear hx252_1); (try clear hx252_2); (try clear hx252_3); (try clear p251); (try clear p252); (try clear q251); (try clear q252)
      obtain ⟨x5_2, x7_2, rfl, rfl, HA, HK2, HO_3, BK246, HB⟩ := hrel
      cases gk with
      | zero => exact absurd HA.out (by simp [spec_Stuck.l1])
      | succ k2 =>
       have H := HA.out; clear HA
       simp only [spec_Stuck.l1] at H
       by_cases c13 : x7_2 < (((rd_T39 l0_0 x4_1).f0).length : Int)
       ·rw [if_pos c13] at H
        have c13b0 := decide_eq_true c13
        clear c13; have H' := Aside0.mk H; clear H
        go_wp2
        repeat (go_quiet (fail); try go_wp2)
        go_loopg [5, 8] k2 (fun kq v5 v8 w' => ∃ (x5_3 : Bool) (x8_3 : Int), v5 = .bool x5_3 ∧ v8 = .int .i64 x8_3 ∧ Aside0 (spec_Stuck.l2 kq x3_1 x4_1 x5_3 ((rd_T39 l0_0 x4_1).f0) x7_2 x8_3 l0_0 l0_1 a0_2 l0_3 = some r) ∧ Aside0 (kq ≤ k2) ∧ Aside0 (Kd.R (Kd.int .i64) 2 w' w.heap.size (fun _ => True) u3 x3_1) ∧ Aside0 (w'.heap[gb246]? = some (.cells #[(.slice (some ad252) l0_0.length c0_0), (.slice A0_1 l0_1.length c0_1), .int .i64 a0_2, (.slice (some ad251) l0_3.length c0_3)] 31 (0, 0))) ∧ Aside0 (Below w.heap.size w w'))
        case atStart => exact ⟨(x5_2), (0), (by first | rfl | (simp; done) | (simp [*]; done)), (by first | rfl | (simp; done) | (simp [*]; done)), H', ⟨Nat.le_refl _⟩, ⟨rT_ HO_3⟩, ⟨bT_ BK246⟩, ⟨sABelo_13⟩⟩
        case round =>
         clear H'; (try clear c3); (try clear c9); (try clear c9b0); (try clear c10); (try clear c10b0); (try clear c11); (try clear c11b0); (try clear c13); (try clear c13b0); (try clear hcz12_0); (try clear hcz12_1); (try clear hcz12_2); (try clear hcz12_3); (try clear hcz7_0); (try clear hcz7_1); (try clear hcz7_2); (try clear hcz7_3); (try clear hfz12_0); (try clear hfz12_1); (try clear hfz12_2); (try clear hfz12_3); (try clear hfz7_0); (try clear hfz7_1); (try clear hfz7_2); (try clear hfz7_3); (try clear hx251_0); (try clear hx251_1); (try clear hx252_0); (try clear hx252_1); (try clear hx252_2); (try clear hx252_3); (try clear p251); (try clear p252); (try clear q251); (try clear q252)
         obtain ⟨x5_3, x8_3, rfl, rfl, HA, HK3, HO_3, BK246, HB⟩ := hrel
         cases gk with
         | zero => exact absurd HA.out (by simp [spec_Stuck.l2])
         | succ k3 =>
          have H := HA.out; clear HA
          simp only [spec_Stuck.l2] at H
          by_cases c14 : x8_3 < (x3_1.length : Int)
          ·rw [if_pos c14] at H
           have c14b0 := decide_eq_true c14
           clear c14
           by_cases c15 : x5_3 = true
           ·subst c15
            replace H := ifT_ H; have H' := Aside0.mk H; clear H
            obtain ⟨Ao16, co16, eo16⟩ := Kd.R_slice HO_3.out
            subst eo16
            go_wp2
            repeat (go_quiet (fail); try go_wp2)
            go_roundg k3
            case measure => have := HK1.out; have := HK2.out; have := HK3.out; omega
            case rel => exact ⟨(true), (wrap64 (x8_3 + 1)), (by first | rfl | (simp; done) | (simp [*]; done)), (by first | rfl | (simp; done) | (simp [*]; done)), H', ⟨by have := HK1.out; have := HK2.out; have := HK3.out; omega⟩, ⟨rT_ HO_3⟩, ⟨bT_ BK246⟩, ⟨sABelo_13⟩⟩
           ·replace c15 := Bool.eq_false_iff.mpr c15
            subst c15
            replace H := ifF_ H
            obtain ⟨c17, H⟩ := ifS_ H
            have c17b0 : decide (0 ≤ x8_3) = true := decide_eq_true c17
            clear c17
            obtain ⟨c18, H⟩ := ifS_ H
            have c18b0 : decide (0 ≤ x7_2) = true := decide_eq_true c18
            clear c18
            obtain ⟨c19, H⟩ := ifS_ H
            have c19b0 : decide (x7_2 < (((rd_T39 l0_0 x4_1).f0).length : Int)) = true := decide_eq_true c19
            clear c19; have H' := Aside0.mk H; clear H
            obtain ⟨Ao20, co20, eo20⟩ := Kd.R_slice HO_3.out
            subst eo20
            have p256 : 0 ≤ (x8_3 : Int) := dA_
            have q256 : x8_3 < (x3_1.length : Int) := dA_
            obtain ⟨ad256, e256, hx256_0⟩ := Kd.at_int (Kd.R_reads' HO_3.out).2.2 x8_3 p256 q256
            cases e256
            replace p256 := eq_true p256; replace q256 := eq_true q256
            have p257 : 0 ≤ (x7_2 : Int) := dA_
            have q257 : x7_2 < (((rd_T39 l0_0 x4_1).f0).length : Int) := dA_
            obtain ⟨ad257, e257, hx257_0⟩ := Kd.at_int HR252_0.out x7_2 p257 q257
            cases e257
            replace hx257_0 := hX_ HB hx257_0
            replace p257 := eq_true p257; replace q257 := eq_true q257
            go_wp2
            repeat (go_quiet (fail); try go_wp2)
            go_roundg k3
            case measure => have := HK1.out; have := HK2.out; have := HK3.out; omega
            case rel => exact ⟨(((rd x3_1 x8_3) == (rd ((rd_T39 l0_0 x4_1).f0) x7_2))), (wrap64 (x8_3 + 1)), (by first | rfl | (simp; done) | (simp [*]; done)), (by first | rfl | (simp; done) | (simp [*]; done)), H', ⟨by have := HK1.out; have := HK2.out; have := HK3.out; omega⟩, ⟨rT_ HO_3⟩, ⟨bT_ BK246⟩, ⟨sABelo_13⟩⟩
          ·rw [if_neg c14] at H
           have c14b0 := decide_eq_false c14
           clear c14; have H' := Aside0.mk H; clear H
           obtain ⟨Ao21, co21, eo21⟩ := Kd.R_slice HO_3.out
           subst eo21
           go_wp2
           repeat (go_quiet (fail); try go_wp2)
           go_roundg k3
           case measure => have := HK1.out; have := HK2.out; have := HK3.out; omega
           case rel => exact ⟨(x5_3), (wrap64 (x7_2 + 1)), (by first | rfl | (simp; done) | (simp [*]; done)), (by first | rfl | (simp; done) | (simp [*]; done)), H', ⟨by have := HK1.out; have := HK2.out; have := HK3.out; omega⟩, ⟨rT_ HO_3⟩, ⟨bT_ BK246⟩, ⟨sABelo_13⟩⟩
       ·rw [if_neg c13] at H
        have c13b0 := decide_eq_false c13
        clear c13
        by_cases c22 : x5_2 = true
        ·subst c22
         replace H := ifT_ H
         obtain ⟨c23, H⟩ := ifS_ H
         have LMc23 := Aside0.mk c23; clear c23
         obtain ⟨y253, hy253⟩ : ∃ y_ : List Int, y_ = (x3_1 ++ [wrap64 (x4_1 + 1)]) := ⟨_, rfl⟩
         replace H : (spec_Stuck.l0 k2 y253 (wrap64 (x4_1 + 1)) l0_0 l0_1 a0_2 l0_3) = some r := by first | (rw [hy253]; with_reducible exact H) | (have H2_ := (Option.bind_some _ _).symm.trans H; rw [hy253]; with_reducible exact H2_) | (have H2_ := (Option.bind_some _ _).symm.trans H; with_reducible exact H2_) | with_reducible exact H | (rw [hy253]; exact H) | exact H
         have Ny253 := Aside0.mk hy253; clear hy253; have H' := Aside0.mk H; clear H
         have START_ := True.intro
         repeat ((first | go_quiet (fail) | clear START_); try go_wp2_with (first | ((with_reducible refine gate_builtin (b := .append) (xs := #[.tmp 60, .tmp 63]) rfl ?_); at_builtin; refine Kd.R_append (Kd.int .i64) (w0 := w) w.heap.size rfl (.tmp 60) (.tmp 63) 25 2 (.int .i64 0) 8 rfl Try.underlying25 info2 rfl (by decide) (by omega) u3 x3_1 (wrap64 (x4_1 + 1)) [.int .i64 (wrap64 (x4_1 + 1))] (fun _ => True) (fun _ => False) rfl rfl ?aP (fun _ hk => hk.elim) ?aF ?aO ?aB ?aS ?aL ?_; (case aP => exact rfl); (case aB => exact sABelo_13); (case aF => exact (fun _ _ => trivial)); (case aO => exact (rT_ HO_3)); (case aS => exact (below_size sABelo_13)); (case aL => have := LMc23.out; omega); intro v254 w24 ho hb hg hat; rw [← Ny253.out] at ho; replace BK246 := Aside0.mk (blk_grown (g := gb246) (o := .cells #[.slice (some ad252) l0_0.length c0_0, .slice A0_1 l0_1.length c0_1, .int .i64 a0_2, .slice (some ad251) l0_3.length c0_3] 31 (0, 0)) (bT_ BK246) hg (Kd.R_ne HO_3.out BK246.out (by decide))); replace HB := Aside0.mk (hb); have HO255 := Aside0.mk (ho); clear HO_3; clear ho hb hg hat)))
         go_roundg k2
         case measure => have := HK1.out; have := HK2.out; omega
         case rel => exact ⟨(y253), (wrap64 (x4_1 + 1)), (by first | rfl | (simp; done) | (simp [*]; done)), H', ⟨by have := HK1.out; have := HK2.out; omega⟩, ⟨rT_ HO255⟩, ⟨bT_ BK246⟩, ⟨sABelo_13⟩⟩
        ·replace c22 := Bool.eq_false_iff.mpr c22
         subst c22
         replace H := ifF_ H; have H' := Aside0.mk H; clear H
         go_wp2
         repeat (go_quiet (fail); try go_wp2)
         go_roundg k2
         case measure => have := HK1.out; have := HK2.out; omega
         case rel => exact ⟨(x3_1), (wrap64 (x4_1 + 1)), (by first | rfl | (simp; done) | (simp [*]; done)), H', ⟨by have := HK1.out; have := HK2.out; omega⟩, ⟨rT_ HO_3⟩, ⟨bT_ BK246⟩, ⟨sABelo_13⟩⟩
    ·rw [if_neg c9] at H
     have c9b0 := decide_eq_false c9
     clear c9
     obtain rfl := Option.some.inj H
     obtain ⟨hcz25_0, hcz25_1, hcz25_2, hcz25_3, hfz25_0, hfz25_1, hfz25_2, hfz25_3⟩ := cf4_ BK246
     go_wp2
     repeat (go_quiet (fail); try go_wp2)
     go_ret
     exact ⟨_, by first | rfl | (simp [errW_none, errW_some] <;> rfl) | (simp [*, errW_none, errW_some] <;> rfl), by (with_reducible repeat (first | apply Kd.R_alloc | apply Kd.R_drewN | apply Kd.R_drew)); exact HO_3.out, sABelo_13⟩
 ·replace c3 := Bool.eq_false_iff.mpr c3
  subst c3
  replace H := ifF_ H
  obtain rfl := Option.some.inj H
  go_enter Try.func35, Try.ntmps35
  have START_ := True.intro
  repeat ((first | go_quiet (fail) | clear START_); try go_wp2_with (first | ((with_reducible refine gate_dst (N := 1) rfl ?_); refine box_event ?hg (N := 1) ?hd (cs := #[.slice A0_0 l0_0.length c0_0, .slice A0_1 l0_1.length c0_1, .int .i64 a0_2, .slice A0_3 l0_3.length c0_3]) (t := 31) ?hr ?_; (case hd => rfl); (case hg => rfl); (case hr => first | (go_simp; done) | (go_simp; rfl)); intro gb246 hg w26 hbox hb; have BK246 := Aside0.mk (hbox); have GW246 := gE_ HB hg; have GE246 := gE_ HB hg; replace HB := bS_ HB hb; clear hb hbox hg) | ((with_reducible refine gate_dst (N := 9) rfl ?_); refine Kd.R_lit (Kd.int .i64) _ 2 ?hg (N := 9) ?hd (xs := ([] : List Int)) (inner := []) (ok := fun _ => True) (okp := fun _ => True) ?hr ?hp (fun _ hk => hk) trivial (Below.refl _ _) (Nat.le_refl _) (by simp) ?_; (case hd => rfl); (case hg => rfl); (case hr => first | (go_simp; done) | (go_simp; rfl)); (case hp => exact (Reps.none _ _)); intro v248 w27 ho28 hb hg_ hnew_; clear hg_ hnew_; (first | rw [← Ny247.out] at ho28 | (simp only [Int.reduceToNat] at ho28; rw [← Ny247.out] at ho28)); have HO249 := rL_ ho28 HB; replace BK246 := bB_ BK246 hb; replace HB := bS_ HB hb; clear hb ho28; obtain ⟨hcz29_0, hcz29_1, hcz29_2, hcz29_3, hfz29_0, hfz29_1, hfz29_2, hfz29_3⟩ := cf4_ BK246) | (go_at_call 58; (with_reducible refine (spec_l24Ok.calls k _ _ l0_0 _ _ l0_1 a0_2 _ _ l0_3 false _ ?side1 ?side2 ?side3 ?side4 ?side5 ?side6 A2.out).mono ?_); (case side1 => exact cB_ HR0_0 HB); (case side2 => exact HC0_0.out); (case side3 => exact cB_ HR0_1 HB); (case side4 => exact HC0_1.out); (case side5 => exact cB_ HR0_3 HB); (case side6 => exact HC0_3.out); rintro e w30 ⟨rfl, hb⟩; replace HO249 := rB_ HO249 hb; replace BK246 := bB_ BK246 hb; replace HB := bS_ HB hb; (try clear hb); (try clear hk))))
  go_ret
  exact ⟨_, by first | rfl | (simp [errW_none, errW_some] <;> rfl) | (simp [*, errW_none, errW_some] <;> rfl), by (with_reducible repeat (first | apply Kd.R_alloc | apply Kd.R_drewN | apply Kd.R_drew)); exact HO249.out, sABelo_13⟩

/-! ### laws_toInt64S: function 65 -/
def laws_toInt64S.l0 : Nat → List Int → List Int → Int → Option (List Int)
 | 0, _, _, _ => none
 | k + 1, x0, x3, x4 => if x4 < (x0.length : Int) then (if 0 ≤ x4 then (if x4 < (x3.length : Int) then (laws_toInt64S.l0 k x0 (x3.set (x4 : Int).toNat (rd x0 x4)) (wrap64 (x4 + 1))) else (none)) else (none)) else (some x3)
def laws_toInt64S.f (k : Nat) (l0 : List Int) : Option (List Int) := if 0 ≤ (l0.length : Int) then (if ((l0.length : Int) : Int).toNat ≤ 35184372088832 then (laws_toInt64S.l0 k l0 (List.replicate ((l0.length : Int) : Int).toNat 0) 0) else (none)) else (none)
theorem laws_toInt64S.mono_l : ∀ k, (∀ y0 y1 y2, LeO (laws_toInt64S.l0 k y0 y1 y2) (laws_toInt64S.l0 (k + 1) y0 y1 y2))
 | 0 => fun _ _ _ r h => by simp [laws_toInt64S.l0] at h
 | k + 1 => by
  have ih0 := laws_toInt64S.mono_l k
  ·intro y0 y1 y2
   unfold laws_toInt64S.l0
   repeat' first
   | (with_reducible exact ih0 _ _ _)
   | (with_reducible exact LeO.refl _)
   | (with_reducible exact LeO.none _)
   | (with_reducible refine LeO.ite ?_ ?_)
   | (with_reducible refine LeO.bind ?_ (fun _ => ?_))
   | exact ih0 _ _ _
   | exact LeO.none _
   | refine LeO.ite ?_ ?_
   | refine LeO.bind ?_ (fun _ => ?_)
theorem laws_toInt64S.mono : ∀ a0 k, LeO (laws_toInt64S.f k a0) (laws_toInt64S.f (k + 1) a0) := by
 intro a0 k
 have ih0 := laws_toInt64S.mono_l k
 unfold laws_toInt64S.f
 repeat' first
   | (with_reducible exact ih0 _ _ _)
   | (with_reducible exact LeO.refl _)
   | (with_reducible exact LeO.none _)
   | (with_reducible refine LeO.ite ?_ ?_)
   | (with_reducible refine LeO.bind ?_ (fun _ => ?_))
   | exact ih0 _ _ _
   | exact LeO.none _
   | refine LeO.ite ?_ ?_
   | refine LeO.bind ?_ (fun _ => ?_)
set_option maxHeartbeats 8000000 in
set_option maxRecDepth 100000 in
theorem laws_toInt64S.calls (k : Nat) (A0 : Option Addr) (c0 : Nat) (l0 : List Int) (r : List Int) (w : World) (hr0 : Kd.C (Kd.int .i64) w A0 l0.length l0) (hc0 : l0.length ≤ c0) (h : laws_toInt64S.f k l0 = some r) :
  Calls Try.prog 65 #[.slice A0 l0.length c0] w fun e w' => ∃ v0_ : Value, e = .returned (v0_) ∧ Kd.R (Kd.int .i64) 2 w' w.heap.size (fun _ => True) v0_ r ∧ Below w.heap.size w w' := by
 have HR0 := Aside0.mk hr0; have HC0 := Aside0.mk hc0; clear hr0 hc0
 have HB := Aside0.mk (Below.refl w.heap.size w)
 have H : (if 0 ≤ (l0.length : Int) then (if ((l0.length : Int) : Int).toNat ≤ 35184372088832 then (laws_toInt64S.l0 k l0 (List.replicate ((l0.length : Int) : Int).toNat 0) 0) else (none)) else (none)) = some r := h
 clear h
 obtain ⟨c2, H⟩ := ifS_ H
 have c2b0 := eq_true c2
 have c2b1 : decide (0 ≤ (l0.length : Int)) = true := decide_eq_true c2
 clear c2
 obtain ⟨c3, H⟩ := ifS_ H
 have c3b0 := eq_true c3
 have c3b1 : decide (((l0.length : Int) : Int).toNat ≤ 35184372088832) = true := decide_eq_true c3
 clear c3
 obtain ⟨y258, hy258⟩ : ∃ y_ : List Int, y_ = (List.replicate ((l0.length : Int) : Int).toNat 0) := ⟨_, rfl⟩
 replace H : (laws_toInt64S.l0 k l0 y258 0) = some r := by first | (rw [hy258]; with_reducible exact H) | (have H2_ := (Option.bind_some _ _).symm.trans H; rw [hy258]; with_reducible exact H2_) | (have H2_ := (Option.bind_some _ _).symm.trans H; with_reducible exact H2_) | with_reducible exact H | (rw [hy258]; exact H) | exact H
 have Ny258 := Aside0.mk hy258; clear hy258; have H' := Aside0.mk H; clear H
 go_enter Try.func65, Try.ntmps65
 go_wp2_with (first | ((with_reducible refine gate_dst (N := 7) rfl ?_); refine Kd.R_make (Kd.int .i64) _ 2 rfl (N := 7) rfl 25 _ _ rfl (l0.length : Int) rfl rfl Try.underlying25 (.int .i64 0) 8 info2 rfl (by decide) (by omega) 0 (ok := fun _ => True) (okp := fun _ => True) rfl (fun _ hk => hk) trivial dA_ (Nat.le_trans (Nat.mul_le_mul_right _ (of_decide_eq_true (by first | (with_reducible assumption) | assumption) : (l0.length : Int).toNat ≤ 35184372088832)) (by omega)) (Below.refl _ _) (Nat.le_refl _) ?_; intro v259 w4 ho5 hb hg_ hnew_; clear hg_ hnew_; (first | rw [← Ny258.out] at ho5 | (simp only [Int.reduceToNat] at ho5; rw [← Ny258.out] at ho5)); have HO260 := rL_ ho5 HB; replace HB := bS_ HB hb; clear hb ho5))
 go_loopg [4] k (fun kq v4 w' => ∃ (x3_1 : List Int) (x4_1 : Int), v4 = .int .i64 x4_1 ∧ Aside0 (laws_toInt64S.l0 kq l0 x3_1 x4_1 = some r) ∧ Aside0 (kq ≤ k) ∧ Aside0 (Kd.R (Kd.int .i64) 2 w' w.heap.size (fun _ => True) v259 x3_1) ∧ Aside0 (Below w.heap.size w w'))
 case atStart => exact ⟨(y258), (0), (by first | rfl | (simp; done) | (simp [*]; done)), H', ⟨Nat.le_refl _⟩, ⟨rT_ HO260⟩, ⟨sABelo_13⟩⟩
 case round =>
  clear H'; (try clear c2); (try clear c2b0); (try clear c2b1); (try clear c3); (try clear c3b0); (try clear c3b1)
  obtain ⟨x3_1, x4_1, rfl, HA, HK1, HO_3, HB⟩ := hrel
  cases gk with
  | zero => exact absurd HA.out (by simp [laws_toInt64S.l0])
  | succ k1 =>
   have H := HA.out; clear HA
   simp only [laws_toInt64S.l0] at H
   by_cases c6 : x4_1 < (l0.length : Int)
   ·rw [if_pos c6] at H
    have c6b0 := decide_eq_true c6
    clear c6
    obtain ⟨c7, H⟩ := ifS_ H
    have c7b0 : decide (0 ≤ x4_1) = true := decide_eq_true c7
    clear c7
    obtain ⟨c8, H⟩ := ifS_ H
    have c8b0 : decide (x4_1 < (x3_1.length : Int)) = true := decide_eq_true c8
    clear c8
    obtain ⟨y262, hy262⟩ : ∃ y_ : List Int, y_ = (x3_1.set (x4_1 : Int).toNat (rd l0 x4_1)) := ⟨_, rfl⟩
    replace H : (laws_toInt64S.l0 k1 l0 y262 (wrap64 (x4_1 + 1))) = some r := by first | (rw [hy262]; with_reducible exact H) | (have H2_ := (Option.bind_some _ _).symm.trans H; rw [hy262]; with_reducible exact H2_) | (have H2_ := (Option.bind_some _ _).symm.trans H; with_reducible exact H2_) | with_reducible exact H | (rw [hy262]; exact H) | exact H
    have Ny262 := Aside0.mk hy262; clear hy262; have H' := Aside0.mk H; clear H
    have p261 : 0 ≤ (x4_1 : Int) := dA_
    have q261 : x4_1 < (l0.length : Int) := dA_
    obtain ⟨ad261, e261, hx261_0⟩ := Kd.at_int HR0.out x4_1 p261 q261
    cases e261
    replace hx261_0 := hX_ HB hx261_0
    replace p261 := eq_true p261; replace q261 := eq_true q261
    have p9 : 0 ≤ (x4_1 : Int) := dA_
    have q9 : (x4_1 : Int) < ((x3_1.length : Int) : Int) := dA_
    obtain ⟨go9, co9, eo9, gb9, gl9, cl9, HG9⟩ := Kd.R_form HO_3.out (by omega)
    (first | cases eo9 | (injection eo9 with ea_ en_ ec_; (first | subst ea_ | (injection ea_ with ea_; subst ea_)); subst ec_; clear en_))
    have GB9 := Aside0.mk gb9; have GG9 := Aside0.mk HG9; clear gb9 gl9 HG9
    obtain ⟨hx9_0, hf9_0⟩ := Kd.R_celln 0 HO_3.out (x4_1 : Int) p9 q9
    replace p9 := eq_true p9; replace q9 := eq_true q9
    have HP10 := Kd.R_putg HO_3.out (x4_1 : Int) (rd l0 x4_1)
    go_wp2_with (first | ((with_reducible refine gate_store (t := 2) (p := 20) rfl ?_); refine store_event (t := 2) (p := 20) (v := ?vo_w11) (w1 := (wr.setCell ⟨go9, (x4_1 : Int).toNat, none⟩ (.int .i64 (rd l0 x4_1)))) ?hg ?ho ?hn ?hr ?_; (case ho => rfl); (case hg => rfl); (case hn => rfl); (case hr => first | (go_simp; done) | (go_simp; rfl)); intro w11 hw; have hg : wr.grownBy w11 (some go9) := (by rw [hw]; exact HP10.2); have hp_ : Kd.R (Kd.int .i64) 2 w11 w.heap.size (fun _ => True) (.slice (some ⟨go9, 0, none⟩) x3_1.length co9) y262 := (by rw [hw, Ny262.out]; exact HP10.1); clear HP10; replace HO_3 := Aside0.mk (hp_); replace HB := Aside0.mk ((by rw [hw]; exact below_set (HB.out) GB9.out : Below w.heap.size w w11)); clear hg hw hp_))
    go_roundg k1
    case measure => have := HK1.out; omega
    case rel => exact ⟨(y262), (wrap64 (x4_1 + 1)), (by first | rfl | (simp; done) | (simp [*]; done)), H', ⟨by have := HK1.out; omega⟩, ⟨rT_ HO_3⟩, ⟨sABelo_13⟩⟩
   ·rw [if_neg c6] at H
    have c6b0 := decide_eq_false c6
    clear c6
    obtain rfl := Option.some.inj H
    go_wp2
    go_ret
    exact ⟨_, by first | rfl | (simp [errW_none, errW_some] <;> rfl) | (simp [*, errW_none, errW_some] <;> rfl), by (with_reducible repeat (first | apply Kd.R_alloc | apply Kd.R_drewN | apply Kd.R_drew)); exact HO_3.out, sABelo_13⟩

/-! ### laws_toTask: function 86 -/
def laws_toTask.f (k : Nat) (l0_0 : List Int) (a0_1 : Int) (a0_2 : Int) (a0_3 : Int) : Option (List Int × Int × Int × Int) := (laws_toInt64S.f k l0_0).bind fun t266 => (some (t266, a0_1, a0_2, a0_3))
theorem laws_toTask.mono : ∀ a0 a1 a2 a3 k, LeO (laws_toTask.f k a0 a1 a2 a3) (laws_toTask.f (k + 1) a0 a1 a2 a3) := by
 intro a0 a1 a2 a3 k
 unfold laws_toTask.f
 repeat' first
   | (with_reducible exact laws_toInt64S.mono _ _)
   | (with_reducible exact LeO.refl _)
   | (with_reducible exact LeO.none _)
   | (with_reducible refine LeO.ite ?_ ?_)
   | (with_reducible refine LeO.bind ?_ (fun _ => ?_))
   | exact laws_toInt64S.mono _ _
   | exact LeO.none _
   | refine LeO.ite ?_ ?_
   | refine LeO.bind ?_ (fun _ => ?_)
set_option maxHeartbeats 8000000 in
set_option maxRecDepth 100000 in
theorem laws_toTask.calls (k : Nat) (A0_0 : Option Addr) (c0_0 : Nat) (l0_0 : List Int) (a0_1 : Int) (a0_2 : Int) (a0_3 : Int) (r1 : List Int) (r2 : Int) (r3 : Int) (r4 : Int) (w : World) (hr0_0 : Kd.C (Kd.int .i64) w A0_0 l0_0.length l0_0) (hc0_0 : l0_0.length ≤ c0_0) (h : laws_toTask.f k l0_0 a0_1 a0_2 a0_3 = some (r1, r2, r3, r4)) :
  Calls Try.prog 86 #[.agg #[.slice A0_0 l0_0.length c0_0, .int .i64 a0_1, .int .i64 a0_2, .int .i64 a0_3]] w fun e w' => ∃ v0_ : Value, e = .returned (.agg #[v0_, .int .i64 r2, .int .i64 r3, .int .i64 r4]) ∧ Kd.R (Kd.int .i64) 2 w' w.heap.size (fun _ => True) v0_ r1 ∧ Below w.heap.size w w' := by
 have hu110 := Try.underlying110; have hu39 := Try.underlying39; have HR0_0 := Aside0.mk hr0_0; have HC0_0 := Aside0.mk hc0_0; clear hr0_0 hc0_0
 have HB := Aside0.mk (Below.refl w.heap.size w)
 have H : ((laws_toInt64S.f k l0_0).bind fun t266 => (some (t266, a0_1, a0_2, a0_3))) = some (r1, r2, r3, r4) := h
 clear h; replace H := Option.bind_eq_some_iff.mp H
 obtain ⟨t266, A20, H⟩ := H
 replace H : (some (t266, a0_1, a0_2, a0_3)) = some (r1, r2, r3, r4) := H
 have A2 := Aside0.mk A20; clear A20
 simp only [Option.some.injEq, Prod.mk.injEq] at H
 obtain ⟨rfl, rfl, rfl, rfl⟩ := H
 go_enter Try.func86, Try.ntmps86
 go_wp2_with (first | ((with_reducible refine gate_dst (N := 1) rfl ?_); refine box_event ?hg (N := 1) ?hd (cs := #[.slice A0_0 l0_0.length c0_0, .int .i64 a0_1, .int .i64 a0_2, .int .i64 a0_3]) (t := 110) ?hr ?_; (case hd => rfl); (case hg => rfl); (case hr => first | (go_simp; done) | (go_simp; rfl)); intro gb263 hg w3 hbox hb; have BK263 := Aside0.mk (hbox); have GW263 := gE_ HB hg; have GE263 := gE_ HB hg; replace HB := bS_ HB hb; clear hb hbox hg) | ((with_reducible refine gate_dst (N := 2) rfl ?_); refine box_event ?hg (N := 2) ?hd (cs := #[.slice none 0 0, .int .i64 0, .int .i64 0, .int .i64 0]) (t := 39) ?hr ?_; (case hd => rfl); (case hg => rfl); (case hr => first | (go_simp; done) | (go_simp; rfl)); intro gb264 hg w4 hbox hb; have BK264 := Aside0.mk (hbox); have GW264 := gE_ HB hg; have GE264 := gE_ HB hg; replace HB := bS_ HB hb; have NB263_264 := nL_ BK263 hg; have NB264_263 := nG_ BK263 hg; replace BK263 := bB_ BK263 hb; clear hb hbox hg) | ((with_reducible refine gate_dst (N := 3) rfl ?_); refine box_event ?hg (N := 3) ?hd (cs := #[.slice none 0 0, .int .i64 0, .int .i64 0, .int .i64 0]) (t := 39) ?hr ?_; (case hd => rfl); (case hg => rfl); (case hr => first | (go_simp; done) | (go_simp; rfl)); intro gb265 hg w5 hbox hb; have BK265 := Aside0.mk (hbox); have GW265 := gE_ HB hg; have GE265 := gE_ HB hg; replace HB := bS_ HB hb; have NB263_265 := nL_ BK263 hg; have NB265_263 := nG_ BK263 hg; replace BK263 := bB_ BK263 hb; have NB264_265 := nL_ BK264 hg; have NB265_264 := nG_ BK264 hg; replace BK264 := bB_ BK264 hb; clear hb hbox hg; have hnb6 := NB263_264.out; have hnc6 := NB264_263.out; have hnb7 := NB263_265.out; have hnc7 := NB265_263.out; obtain ⟨hcz8_0, hcz8_1, hcz8_2, hcz8_3, hfz8_0, hfz8_1, hfz8_2, hfz8_3⟩ := cf4_ BK263) | ((with_reducible refine gate_callee (f := 65) rfl ?_); refine gL_ (some 6) Try.func65 #[.slice A0_0 l0_0.length c0_0] ?_; (with_reducible refine (laws_toInt64S.calls k _ _ l0_0 t266 _ ?side1 ?side2 A2.out).mono ?_); (case side1 => exact cB_ HR0_0 HB); (case side2 => exact HC0_0.out); rintro e w9 ⟨v267, rfl, ho0, hb⟩; refine ⟨_, rfl, ?_⟩; have HO268 := rL_ ho0 HB; replace BK263 := bB_ BK263 hb; replace BK264 := bB_ BK264 hb; replace BK265 := bB_ BK265 hb; replace HB := bS_ HB hb; (try clear hb); (try clear ho0); obtain ⟨Ao10, co10, eo10⟩ := Kd.R_slice HO268.out; subst eo10; have hnb11 := NB265_264.out; have hnc11 := NB264_265.out; obtain ⟨hcz12_0, hcz12_1, hcz12_2, hcz12_3, hfz12_0, hfz12_1, hfz12_2, hfz12_3⟩ := cf4_ BK265; obtain ⟨hcz13_0, hcz13_1, hcz13_2, hcz13_3, hfz13_0, hfz13_1, hfz13_2, hfz13_3⟩ := cf4_ BK263; obtain ⟨hcz14_0, hcz14_1, hcz14_2, hcz14_3, hfz14_0, hfz14_1, hfz14_2, hfz14_3⟩ := cf4_ BK264))
 refine bodyPost_ret (results_cell_row rfl _ _ gb264 39 #[.slice Ao10 t266.length co10, .int .i64 a0_1, .int .i64 a0_2, .int .i64 a0_3] (0, 0) _ rfl (by (with_reducible repeat (first | refine blk_drewN ?_ _ | refine blk_drew ?_ | refine blk_alloc ?_ _)); refine blk_put (cs := #[.slice Ao10 t266.length co10, .int .i64 a0_1, .int .i64 a0_2, .int .i64 0]) ?_ 3 _ rfl; (with_reducible repeat (first | refine blk_drewN ?_ _ | refine blk_drew ?_ | refine blk_alloc ?_ _)); refine blk_put (cs := #[.slice Ao10 t266.length co10, .int .i64 a0_1, .int .i64 0, .int .i64 0]) ?_ 2 _ rfl; (with_reducible repeat (first | refine blk_drewN ?_ _ | refine blk_drew ?_ | refine blk_alloc ?_ _)); refine blk_put (cs := #[.slice Ao10 t266.length co10, .int .i64 0, .int .i64 0, .int .i64 0]) ?_ 1 _ rfl; (with_reducible repeat (first | refine blk_drewN ?_ _ | refine blk_drew ?_ | refine blk_alloc ?_ _)); refine blk_put (cs := #[.slice none 0 0, .int .i64 0, .int .i64 0, .int .i64 0]) ?_ 0 _ rfl; (with_reducible repeat (first | refine blk_drewN ?_ _ | refine blk_drew ?_ | refine blk_alloc ?_ _)); refine blk_far ?_ NB264_265.out _; (with_reducible repeat (first | refine blk_drewN ?_ _ | refine blk_drew ?_ | refine blk_alloc ?_ _)); refine blk_far ?_ NB264_265.out _; (with_reducible repeat (first | refine blk_drewN ?_ _ | refine blk_drew ?_ | refine blk_alloc ?_ _)); refine blk_far ?_ NB264_265.out _; (with_reducible repeat (first | refine blk_drewN ?_ _ | refine blk_drew ?_ | refine blk_alloc ?_ _)); refine blk_far ?_ NB264_265.out _; exact bT_ BK264) Try.underlying39 rfl (by kernel_rfl)) rfl ?_
 exact ⟨_, by first | rfl | (simp [errW_none, errW_some] <;> rfl) | (simp [*, errW_none, errW_some] <;> rfl), by (with_reducible repeat (first | apply Kd.R_alloc | apply Kd.R_drewN | apply Kd.R_drew)); exact Kd.R_mono (Kd.R_far (p := ⟨gb264, 3, none⟩) (Kd.R_far (p := ⟨gb264, 2, none⟩) (Kd.R_far (p := ⟨gb264, 1, none⟩) (Kd.R_far (p := ⟨gb264, 0, none⟩) (Kd.R_far (p := ⟨gb265, 3, none⟩) (Kd.R_far (p := ⟨gb265, 2, none⟩) (Kd.R_far (p := ⟨gb265, 1, none⟩) (Kd.R_far (p := ⟨gb265, 0, none⟩) (Kd.R_types (Kd.R_types HO268.out BK265.out (by decide)) BK264.out (by decide)) (fun _ hk => hk.1.2) (.slice Ao10 t266.length co10)) (fun _ hk => hk.1.2) (.int .i64 a0_1)) (fun _ hk => hk.1.2) (.int .i64 a0_2)) (fun _ hk => hk.1.2) (.int .i64 a0_3)) (fun _ hk => hk.2) (.slice Ao10 t266.length co10)) (fun _ hk => hk.2) (.int .i64 a0_1)) (fun _ hk => hk.2) (.int .i64 a0_2)) (fun _ hk => hk.2) (.int .i64 a0_3)) (fun _ hk => trivial), sABelo_13⟩

/-! ### laws_toTaskS: function 64 -/
def laws_toTaskS.l0 : Nat → List (S110) → List (S39) → Int → Option ((List (S39)))
 | 0, _, _, _ => none
 | k + 1, x0, x3, x4 => if x4 < (x0.length : Int) then (if 0 ≤ x4 then ((laws_toTask.f k ((rd_T110 x0 x4).f0) ((rd_T110 x0 x4).f1) ((rd_T110 x0 x4).f2) ((rd_T110 x0 x4).f3)).bind fun bt273 => (if x4 < (x3.length : Int) then (laws_toTaskS.l0 k x0 (x3.set (x4 : Int).toNat (⟨bt273.1, bt273.2.1, bt273.2.2.1, bt273.2.2.2⟩ : S39)) (wrap64 (x4 + 1))) else (none))) else (none)) else (some x3)
def laws_toTaskS.f (k : Nat) (l0 : List (S110)) : Option ((List (S39))) := if 0 ≤ (l0.length : Int) then (if ((l0.length : Int) : Int).toNat ≤ 5864062014805 then (laws_toTaskS.l0 k l0 (List.replicate ((l0.length : Int) : Int).toNat z39) 0) else (none)) else (none)
theorem laws_toTaskS.mono_l : ∀ k, (∀ y0 y1 y2, LeO (laws_toTaskS.l0 k y0 y1 y2) (laws_toTaskS.l0 (k + 1) y0 y1 y2))
 | 0 => fun _ _ _ r h => by simp [laws_toTaskS.l0] at h
 | k + 1 => by
  have ih0 := laws_toTaskS.mono_l k
  ·intro y0 y1 y2
   unfold laws_toTaskS.l0
   repeat' first
   | (with_reducible exact ih0 _ _ _)
   | (with_reducible exact laws_toTask.mono _ _ _ _ _)
   | (with_reducible exact LeO.refl _)
   | (with_reducible exact LeO.none _)
   | (with_reducible refine LeO.ite ?_ ?_)
   | (with_reducible refine LeO.bind ?_ (fun _ => ?_))
   | exact ih0 _ _ _
   | exact laws_toTask.mono _ _ _ _ _
   | exact LeO.none _
   | refine LeO.ite ?_ ?_
   | refine LeO.bind ?_ (fun _ => ?_)
theorem laws_toTaskS.mono : ∀ a0 k, LeO (laws_toTaskS.f k a0) (laws_toTaskS.f (k + 1) a0) := by
 intro a0 k
 have ih0 := laws_toTaskS.mono_l k
 unfold laws_toTaskS.f
 repeat' first
   | (with_reducible exact ih0 _ _ _)
   | (with_reducible exact laws_toTask.mono _ _ _ _ _)
   | (with_reducible exact LeO.refl _)
   | (with_reducible exact LeO.none _)
   | (with_reducible refine LeO.ite ?_ ?_)
   | (with_reducible refine LeO.bind ?_ (fun _ => ?_))
   | exact ih0 _ _ _
   | exact laws_toTask.mono _ _ _ _ _
   | exact LeO.none _
   | refine LeO.ite ?_ ?_
   | refine LeO.bind ?_ (fun _ => ?_)
set_option maxHeartbeats 8000000 in
set_option maxRecDepth 100000 in
theorem laws_toTaskS.calls (k : Nat) (A0 : Option Addr) (c0 : Nat) (l0 : List (S110)) (r : List (S39)) (w : World) (hr0 : Kd.C k110 w A0 l0.length l0) (hc0 : l0.length ≤ c0) (h : laws_toTaskS.f k l0 = some r) :
  Calls Try.prog 64 #[.slice A0 l0.length c0] w fun e w' => ∃ v0_ : Value, e = .returned (v0_) ∧ Kd.S k39 39 w' w.heap.size (fun _ => True) v0_ r ∧ Below w.heap.size w w' := by
 have hu110 := Try.underlying110; have hu39 := Try.underlying39; have HR0 := Aside0.mk hr0; have HC0 := Aside0.mk hc0; clear hr0 hc0
 have HB := Aside0.mk (Below.refl w.heap.size w)
 have H : (if 0 ≤ (l0.length : Int) then (if ((l0.length : Int) : Int).toNat ≤ 5864062014805 then (laws_toTaskS.l0 k l0 (List.replicate ((l0.length : Int) : Int).toNat z39) 0) else (none)) else (none)) = some r := h
 clear h
 obtain ⟨c2, H⟩ := ifS_ H
 have c2b0 := eq_true c2
 have c2b1 : decide (0 ≤ (l0.length : Int)) = true := decide_eq_true c2
 clear c2
 obtain ⟨c3, H⟩ := ifS_ H
 have c3b0 := eq_true c3
 have c3b1 : decide (((l0.length : Int) : Int).toNat ≤ 5864062014805) = true := decide_eq_true c3
 clear c3
 obtain ⟨y269, hy269⟩ : ∃ y_ : List (S39), y_ = (List.replicate ((l0.length : Int) : Int).toNat z39) := ⟨_, rfl⟩
 replace H : (laws_toTaskS.l0 k l0 y269 0) = some r := by first | (rw [hy269]; with_reducible exact H) | (have H2_ := (Option.bind_some _ _).symm.trans H; rw [hy269]; with_reducible exact H2_) | (have H2_ := (Option.bind_some _ _).symm.trans H; with_reducible exact H2_) | with_reducible exact H | (rw [hy269]; exact H) | exact H
 have Ny269 := Aside0.mk hy269; clear hy269; have H' := Aside0.mk H; clear H
 go_enter Try.func64, Try.ntmps64
 go_wp2_with (first | ((with_reducible refine gate_dst (N := 7) rfl ?_); refine Kd.S_make k39 _ 39 rfl (N := 7) rfl 24 _ _ rfl (l0.length : Int) rfl rfl Try.underlying24 (.agg #[(.slice none 0 0), (.int .i64 0), (.int .i64 0), (.int .i64 0)]) 48 info39 rfl (by decide) (by omega) z39 (ok := fun _ => True) (okp := fun _ => True) (k39_mkM _ _ _ z39 (Kd.R_nil _ _ _ _ _)) (fun _ hk => hk) trivial dA_ (Nat.le_trans (Nat.mul_le_mul_right _ (of_decide_eq_true (by first | (with_reducible assumption) | assumption) : (l0.length : Int).toNat ≤ 5864062014805)) (by omega)) (Below.refl _ _) (Nat.le_refl _) ?_; intro v270 w4 ho5 hb hg_ hnew_; clear hg_ hnew_; (first | rw [← Ny269.out] at ho5 | (simp only [Int.reduceToNat] at ho5; rw [← Ny269.out] at ho5)); have HO271 := sL_ ho5 HB; replace HB := bS_ HB hb; clear hb ho5))
 go_loopg [4] k (fun kq v4 w' => ∃ (x3_1 : List (S39)) (x4_1 : Int), v4 = .int .i64 x4_1 ∧ Aside0 (laws_toTaskS.l0 kq l0 x3_1 x4_1 = some r) ∧ Aside0 (kq ≤ k) ∧ Aside0 (Kd.S k39 39 w' w.heap.size (fun _ => True) v270 x3_1) ∧ Aside0 (Below w.heap.size w w'))
 case atStart => exact ⟨(y269), (0), (by first | rfl | (simp; done) | (simp [*]; done)), H', ⟨Nat.le_refl _⟩, ⟨sT_ HO271⟩, ⟨sABelo_13⟩⟩
 case round =>
  clear H'; (try clear c2); (try clear c2b0); (try clear c2b1); (try clear c3); (try clear c3b0); (try clear c3b1)
  obtain ⟨x3_1, x4_1, rfl, HA, HK1, HO_3, HB⟩ := hrel
  cases gk with
  | zero => exact absurd HA.out (by simp [laws_toTaskS.l0])
  | succ k1 =>
   have H := HA.out; clear HA
   simp only [laws_toTaskS.l0] at H
   by_cases c6 : x4_1 < (l0.length : Int)
   ·rw [if_pos c6] at H
    have c6b0 := decide_eq_true c6
    clear c6
    obtain ⟨c7, H⟩ := ifS_ H
    have c7b0 : decide (0 ≤ x4_1) = true := decide_eq_true c7
    clear c7; replace H := Option.bind_eq_some_iff.mp H
    obtain ⟨⟨t273, t276, t277, t278⟩, A80, H⟩ := H
    replace H : (if x4_1 < (x3_1.length : Int) then (laws_toTaskS.l0 k1 l0 (x3_1.set (x4_1 : Int).toNat (⟨t273, t276, t277, t278⟩ : S39)) (wrap64 (x4_1 + 1))) else (none)) = some r := H
    have A8 := Aside0.mk A80; clear A80
    obtain ⟨c9, H⟩ := ifS_ H
    have c9b0 : decide (x4_1 < (x3_1.length : Int)) = true := decide_eq_true c9
    clear c9
    obtain ⟨y279, hy279⟩ : ∃ y_ : List (S39), y_ = (x3_1.set (x4_1 : Int).toNat (⟨t273, t276, t277, t278⟩ : S39)) := ⟨_, rfl⟩
    replace H : (laws_toTaskS.l0 k1 l0 y279 (wrap64 (x4_1 + 1))) = some r := by first | (rw [hy279]; with_reducible exact H) | (have H2_ := (Option.bind_some _ _).symm.trans H; rw [hy279]; with_reducible exact H2_) | (have H2_ := (Option.bind_some _ _).symm.trans H; with_reducible exact H2_) | with_reducible exact H | (rw [hy279]; exact H) | exact H
    have Ny279 := Aside0.mk hy279; clear hy279; have H' := Aside0.mk H; clear H
    have p272 : 0 ≤ (x4_1 : Int) := dA_
    have q272 : x4_1 < (l0.length : Int) := dA_
    obtain ⟨ad272, A272_0, c272_0, e272, hx272_0, hx272_1, hx272_2, hx272_3, hl272_0, hi272_0⟩ := at_T110 HR0.out x4_1 p272 q272
    cases e272
    replace hx272_0 := hX_ HB hx272_0
    replace hx272_1 := hX_ HB hx272_1
    replace hx272_2 := hX_ HB hx272_2
    replace hx272_3 := hX_ HB hx272_3
    have HR272_0 := Aside0.mk hi272_0; have HC272_0 := Aside0.mk hl272_0; clear hi272_0 hl272_0; replace p272 := eq_true p272; replace q272 := eq_true q272
    go_wp2_with (first | ((with_reducible refine gate_callee (f := 86) rfl ?_); refine gL_ (some 20) Try.func86 #[.agg #[.slice A272_0 ((rd_T110 l0 x4_1).f0).length c272_0, .int .i64 ((rd_T110 l0 x4_1).f1), .int .i64 ((rd_T110 l0 x4_1).f2), .int .i64 ((rd_T110 l0 x4_1).f3)]] ?_; (with_reducible refine (laws_toTask.calls k1 _ _ ((rd_T110 l0 x4_1).f0) ((rd_T110 l0 x4_1).f1) ((rd_T110 l0 x4_1).f2) ((rd_T110 l0 x4_1).f3) t273 t276 t277 t278 _ ?side1 ?side2 A8.out).mono ?_); (case side1 => exact cB_ HR272_0 HB); (case side2 => exact HC272_0.out); rintro e w11 ⟨v274, rfl, ho0, hb⟩; refine ⟨_, rfl, ?_⟩; replace HO_3 := Aside0.mk (Kd.S_elder' (sT_ HO_3) (Kd.R_base ho0) hb); have HO275 := rL_ ho0 HB; replace HB := bS_ HB hb; (try clear hb); (try clear hk); (try clear ho0); obtain ⟨Aq274_, cq274_, eq_⟩ := Kd.R_slice HO275.out; subst eq_; have p10 : 0 ≤ (x4_1 : Int) := dA_; have q10 : (x4_1 : Int) < ((x3_1.length : Int) : Int) := dA_; obtain ⟨go10, co10, eo10, gb10, gl10, cl10, HG10⟩ := Kd.S_form HO_3.out (by omega); (first | cases eo10 | (injection eo10 with ea_ en_ ec_; (first | subst ea_ | (injection ea_ with ea_; subst ea_)); subst ec_; clear en_)); have GB10 := Aside0.mk gb10; have GG10 := Aside0.mk HG10; clear gb10 gl10 HG10; obtain ⟨_, ce10, hcl10, hM10, hcc10, hfr10, _, _⟩ := Kd.S_elem HO_3.out z39 (x4_1 : Int) p10 q10; obtain ⟨ve10_0, rfl, ge10_0⟩ := k39_openM hM10; have hx10_0 : w11.cell? ⟨go10, (x4_1 : Int).toNat * 4, none⟩ = some (ve10_0) := hcc10 0 _ rfl; have hx10_1 : w11.cell? ⟨go10, (x4_1 : Int).toNat * 4 + 1, none⟩ = some (.int .i64 ((rd_T39 x3_1 x4_1).f1)) := hcc10 1 _ rfl; have hx10_2 : w11.cell? ⟨go10, (x4_1 : Int).toNat * 4 + 2, none⟩ = some (.int .i64 ((rd_T39 x3_1 x4_1).f2)) := hcc10 2 _ rfl; have hx10_3 : w11.cell? ⟨go10, (x4_1 : Int).toNat * 4 + 3, none⟩ = some (.int .i64 ((rd_T39 x3_1 x4_1).f3)) := hcc10 3 _ rfl; have hf10_0 : w11.frozen? ⟨go10, (x4_1 : Int).toNat * 4, none⟩ = false := hfr10 0; have hf10_1 : w11.frozen? ⟨go10, (x4_1 : Int).toNat * 4 + 1, none⟩ = false := hfr10 1; have hf10_2 : w11.frozen? ⟨go10, (x4_1 : Int).toNat * 4 + 2, none⟩ = false := hfr10 2; have hf10_3 : w11.frozen? ⟨go10, (x4_1 : Int).toNat * 4 + 3, none⟩ = false := hfr10 3; clear hcl10 hcc10 hfr10 hM10; replace p10 := eq_true p10; replace q10 := eq_true q10; have n_ := Aside0.mk (Kd.S_mono (ok' := (fun k_ => some k_ ≠ ((.slice Aq274_ t273.length cq274_) : Value).ownBlock)) HO_3.out (fun k_ hk => hk.2)); clear HO_3; have HO_3 := n_; clear n_; have HX12 := Aside0.mk (show Kd.S k39 39 w11 w.heap.size (fun k_ => ((fun _ => True)) k_ ∧ ¬ ((fun k_ => some k_ = ((.slice Aq274_ t273.length cq274_) : Value).ownBlock)) k_) (.slice (some ⟨go10, 0, none⟩) x3_1.length co10) x3_1 from (by (with_reducible repeat (first | apply Kd.S_alloc | apply Kd.S_drewN | apply Kd.S_drew)); exact Kd.S_mono HO_3.out (fun k_ hk => ⟨trivial, fun e_ => hk e_⟩))); obtain ⟨oki12, ce12, hcl12, hM12, hcc12, hfr12, hoki12, hH12⟩ := Kd.S_elem HX12.out z39 (x4_1 : Int) dA_ (by have h_ : (x4_1 : Int) < ((x3_1.length : Int) : Int) := dA_; first | exact h_ | (have e_ := (Kd.S_reads' HO_3.out).1; omega) | simpa using h_); obtain ⟨ve12_0, rfl, ge12_0⟩ := k39_openM hM12; have HP12 := Kd.S_seg hH12 dA_ (by have h_ : (x4_1 : Int) < ((x3_1.length : Int) : Int) := dA_; first | exact h_ | (have e_ := (Kd.S_reads' HO_3.out).1; omega) | simpa using h_) (seg := [(.slice Aq274_ t273.length cq274_), .int .i64 t276, .int .i64 t277, .int .i64 t278]) (j := 0) (show 4 ≤ 4 from by decide) (x' := (⟨t273, t276, t277, t278⟩ : S39)) (k39_mkM _ _ _ (⟨t273, t276, t277, t278⟩ : S39) (Kd.R_mono (Kd.R_tight rfl (Kd.R_mono (ok' := fun k_ => ((fun _ => True)) k_ ∧ k_ ≠ go10) (Kd.R_apart' (HO275.out) (Kd.S_typed HO_3.out) (by decide)) (fun k_ hk => ⟨trivial, fun e_ => (hk.2) (by rw [e_]; rfl)⟩))) (fun _ h_ => Or.inr (h_)))) (fun _ hk => hk) (fun k_ hk_ => ((Kd.R_mono (ok' := fun k_ => ((fun _ => True)) k_ ∧ k_ ≠ go10) (Kd.R_apart' (HO275.out) (Kd.S_typed HO_3.out) (by decide)) (fun k_ hk => ⟨trivial, fun e_ => (hk.2) (by rw [e_]; rfl)⟩))).1 k_ hk_.symm); have hx12_0 := hcc12 0 _ rfl; (try simp only [show (k39).sz = 4 from rfl, Nat.mul_one, Nat.add_zero] at hx12_0); have hf12_0 := hfr12 0; (try simp only [show (k39).sz = 4 from rfl, Nat.mul_one, Nat.add_zero] at hf12_0); have hx12_1 := hcc12 1 _ rfl; (try simp only [show (k39).sz = 4 from rfl, Nat.mul_one, Nat.add_zero] at hx12_1); have hf12_1 := hfr12 1; (try simp only [show (k39).sz = 4 from rfl, Nat.mul_one, Nat.add_zero] at hf12_1); have hx12_2 := hcc12 2 _ rfl; (try simp only [show (k39).sz = 4 from rfl, Nat.mul_one, Nat.add_zero] at hx12_2); have hf12_2 := hfr12 2; (try simp only [show (k39).sz = 4 from rfl, Nat.mul_one, Nat.add_zero] at hf12_2); have hx12_3 := hcc12 3 _ rfl; (try simp only [show (k39).sz = 4 from rfl, Nat.mul_one, Nat.add_zero] at hx12_3); have hf12_3 := hfr12 3; (try simp only [show (k39).sz = 4 from rfl, Nat.mul_one, Nat.add_zero] at hf12_3); clear hcl12 hcc12 hfr12 hM12 hoki12 hH12) | ((with_reducible refine gate_store (t := 39) (p := 21) rfl ?_); refine store_event (t := 39) (p := 21) (v := ?vo_w13) (w1 := ((((w11.setCell ⟨go10, (x4_1 : Int).toNat * 4, none⟩ ((.slice Aq274_ t273.length cq274_))).setCell ⟨go10, (x4_1 : Int).toNat * 4 + 1, none⟩ (.int .i64 t276)).setCell ⟨go10, (x4_1 : Int).toNat * 4 + 2, none⟩ (.int .i64 t277)).setCell ⟨go10, (x4_1 : Int).toNat * 4 + 3, none⟩ (.int .i64 t278))) ?hg ?ho ?hn ?hr ?_; (case ho => rfl); (case hg => rfl); (case hn => rfl); (case hr => first | (go_simp; done) | (go_simp; rfl)); intro w13 hw; have hg : w11.grownBy w13 (some go10) := (by rw [hw]; exact HP12.2); have hp_ : Kd.S k39 39 w13 w.heap.size (fun _ => True) (.slice (some ⟨go10, 0, none⟩) x3_1.length co10) y279 := (by rw [hw, Ny279.out]; exact HP12.1); clear HP12; replace HO_3 := Aside0.mk (hp_); replace HB := Aside0.mk ((by rw [hw]; exact below_set (below_set (below_set (below_set (HB.out) GB10.out) GB10.out) GB10.out) GB10.out : Below w.heap.size w w13)); clear HO275; clear hg hw hp_))
    go_roundg k1
    case measure => have := HK1.out; omega
    case rel => exact ⟨(y279), (wrap64 (x4_1 + 1)), (by first | rfl | (simp; done) | (simp [*]; done)), H', ⟨by have := HK1.out; omega⟩, ⟨sT_ HO_3⟩, ⟨sABelo_13⟩⟩
   ·rw [if_neg c6] at H
    have c6b0 := decide_eq_false c6
    clear c6
    obtain rfl := Option.some.inj H
    go_wp2
    go_ret
    exact ⟨_, by first | rfl | (simp [errW_none, errW_some] <;> rfl) | (simp [*, errW_none, errW_some] <;> rfl), by (with_reducible repeat (first | apply Kd.S_alloc | apply Kd.S_drewN | apply Kd.S_drew)); exact HO_3.out, sABelo_13⟩

/-! ### laws_toSuite: function 28 -/
def laws_toSuite.f (k : Nat) (l0_0 : List (S110)) (l0_1 : List Int) : Option ((List (S39)) × List Int) := (laws_toTaskS.f k l0_0).bind fun t283 => ((laws_toInt64S.f k l0_1).bind fun t286 => (some (t283, t286)))
theorem laws_toSuite.mono : ∀ a0 a1 k, LeO (laws_toSuite.f k a0 a1) (laws_toSuite.f (k + 1) a0 a1) := by
 intro a0 a1 k
 unfold laws_toSuite.f
 repeat' first
   | (with_reducible exact laws_toInt64S.mono _ _)
   | (with_reducible exact laws_toTaskS.mono _ _)
   | (with_reducible exact LeO.refl _)
   | (with_reducible exact LeO.none _)
   | (with_reducible refine LeO.ite ?_ ?_)
   | (with_reducible refine LeO.bind ?_ (fun _ => ?_))
   | exact laws_toInt64S.mono _ _
   | exact laws_toTaskS.mono _ _
   | exact LeO.none _
   | refine LeO.ite ?_ ?_
   | refine LeO.bind ?_ (fun _ => ?_)
set_option maxHeartbeats 8000000 in
set_option maxRecDepth 100000 in
theorem laws_toSuite.calls (k : Nat) (A0_0 : Option Addr) (c0_0 : Nat) (l0_0 : List (S110)) (A0_1 : Option Addr) (c0_1 : Nat) (l0_1 : List Int) (r1 : List (S39)) (r2 : List Int) (w : World) (hr0_0 : Kd.C k110 w A0_0 l0_0.length l0_0) (hc0_0 : l0_0.length ≤ c0_0) (hr0_1 : Kd.C (Kd.int .i64) w A0_1 l0_1.length l0_1) (hc0_1 : l0_1.length ≤ c0_1) (h : laws_toSuite.f k l0_0 l0_1 = some (r1, r2)) :
  Calls Try.prog 28 #[.agg #[.slice A0_0 l0_0.length c0_0, .slice A0_1 l0_1.length c0_1]] w fun e w' => ∃ v0_ v1_ : Value, e = .returned (.agg #[v0_, v1_]) ∧ Kd.S k39 39 w' w.heap.size (fun k_ => some k_ ≠ (v1_ : Value).ownBlock) v0_ r1 ∧ Kd.R (Kd.int .i64) 2 w' w.heap.size (fun _ => True) v1_ r2 ∧ Below w.heap.size w w' := by
 have hu54 := Try.underlying54; have hu27 := Try.underlying27; have HR0_0 := Aside0.mk hr0_0; have HC0_0 := Aside0.mk hc0_0; clear hr0_0 hc0_0; have HR0_1 := Aside0.mk hr0_1; have HC0_1 := Aside0.mk hc0_1; clear hr0_1 hc0_1
 have HB := Aside0.mk (Below.refl w.heap.size w)
 have H : ((laws_toTaskS.f k l0_0).bind fun t283 => ((laws_toInt64S.f k l0_1).bind fun t286 => (some (t283, t286)))) = some (r1, r2) := h
 clear h; replace H := Option.bind_eq_some_iff.mp H
 obtain ⟨t283, A20, H⟩ := H
 replace H : ((laws_toInt64S.f k l0_1).bind fun t286 => (some (t283, t286))) = some (r1, r2) := H
 have A2 := Aside0.mk A20; clear A20; replace H := Option.bind_eq_some_iff.mp H
 obtain ⟨t286, A30, H⟩ := H
 replace H : (some (t283, t286)) = some (r1, r2) := H
 have A3 := Aside0.mk A30; clear A30
 simp only [Option.some.injEq, Prod.mk.injEq] at H
 obtain ⟨rfl, rfl⟩ := H
 go_enter Try.func28, Try.ntmps28
 go_wp2_with (first | ((with_reducible refine gate_dst (N := 1) rfl ?_); refine box_event ?hg (N := 1) ?hd (cs := #[.slice A0_0 l0_0.length c0_0, .slice A0_1 l0_1.length c0_1]) (t := 54) ?hr ?_; (case hd => rfl); (case hg => rfl); (case hr => first | (go_simp; done) | (go_simp; rfl)); intro gb280 hg w4 hbox hb; have BK280 := Aside0.mk (hbox); have GW280 := gE_ HB hg; have GE280 := gE_ HB hg; replace HB := bS_ HB hb; clear hb hbox hg) | ((with_reducible refine gate_dst (N := 2) rfl ?_); refine box_event ?hg (N := 2) ?hd (cs := #[.slice none 0 0, .slice none 0 0]) (t := 27) ?hr ?_; (case hd => rfl); (case hg => rfl); (case hr => first | (go_simp; done) | (go_simp; rfl)); intro gb281 hg w5 hbox hb; have BK281 := Aside0.mk (hbox); have GW281 := gE_ HB hg; have GE281 := gE_ HB hg; replace HB := bS_ HB hb; have NB280_281 := nL_ BK280 hg; have NB281_280 := nG_ BK280 hg; replace BK280 := bB_ BK280 hb; clear hb hbox hg) | ((with_reducible refine gate_dst (N := 3) rfl ?_); refine box_event ?hg (N := 3) ?hd (cs := #[.slice none 0 0, .slice none 0 0]) (t := 27) ?hr ?_; (case hd => rfl); (case hg => rfl); (case hr => first | (go_simp; done) | (go_simp; rfl)); intro gb282 hg w6 hbox hb; have BK282 := Aside0.mk (hbox); have GW282 := gE_ HB hg; have GE282 := gE_ HB hg; replace HB := bS_ HB hb; have NB280_282 := nL_ BK280 hg; have NB282_280 := nG_ BK280 hg; replace BK280 := bB_ BK280 hb; have NB281_282 := nL_ BK281 hg; have NB282_281 := nG_ BK281 hg; replace BK281 := bB_ BK281 hb; clear hb hbox hg; have hnb7 := NB280_281.out; have hnc7 := NB281_280.out; have hnb8 := NB280_282.out; have hnc8 := NB282_280.out; obtain ⟨hcz9_0, hcz9_1, hfz9_0, hfz9_1⟩ := cf2_ BK280) | ((with_reducible refine gate_callee (f := 64) rfl ?_); refine gL_ (some 6) Try.func64 #[.slice A0_0 l0_0.length c0_0] ?_; (with_reducible refine (laws_toTaskS.calls k _ _ l0_0 t283 _ ?side1 ?side2 A2.out).mono ?_); (case side1 => exact cB_ HR0_0 HB); (case side2 => exact HC0_0.out); rintro e w10 ⟨v284, rfl, ho0, hb⟩; refine ⟨_, rfl, ?_⟩; have HO285 := sL_ ho0 HB; replace BK280 := bB_ BK280 hb; replace BK281 := bB_ BK281 hb; replace BK282 := bB_ BK282 hb; replace HB := bS_ HB hb; (try clear hb); (try clear ho0); obtain ⟨Ao11, co11, eo11⟩ := Kd.S_slice HO285.out; subst eo11; have hnb12 := NB282_281.out; have hnc12 := NB281_282.out; obtain ⟨hcz13_0, hcz13_1, hfz13_0, hfz13_1⟩ := cf2_ BK282; obtain ⟨hcz14_0, hcz14_1, hfz14_0, hfz14_1⟩ := cf2_ BK280) | ((with_reducible refine gate_callee (f := 65) rfl ?_); refine gL_ (some 10) Try.func65 #[.slice A0_1 l0_1.length c0_1] ?_; (with_reducible refine (laws_toInt64S.calls k _ _ l0_1 t286 _ ?side1 ?side2 A3.out).mono ?_); (case side1 => exact cBF_ HR0_1 HB GE282); (case side2 => exact HC0_1.out); rintro e w15 ⟨v287, rfl, ho0, hb⟩; refine ⟨_, rfl, ?_⟩; replace HO285 := Aside0.mk (Kd.S_elder' (sF_ HO285 BK282) (Kd.R_base ho0) hb); have HO288 := rLF_ ho0 HB; replace BK280 := bBF_ BK280 NB280_282 hb; replace BK281 := bBF_ BK281 NB281_282 hb; replace BK282 := Aside0.mk (blk_below (g := gb282) (o := .cells #[.slice Ao11 t283.length co11, .slice none 0 0] 27 (0, 0)) (bP_ BK282) hb); replace HB := bSF_ HB GE282 hb; (try clear hb); (try clear ho0); obtain ⟨Ao16, co16, eo16⟩ := Kd.R_slice HO288.out; subst eo16; obtain ⟨hcz17_0, hcz17_1, hfz17_0, hfz17_1⟩ := cf2_ BK282; obtain ⟨hcz18_0, hcz18_1, hfz18_0, hfz18_1⟩ := cf2_ BK281))
 refine bodyPost_ret (results_cell_row rfl _ _ gb281 27 #[.slice Ao11 t283.length co11, .slice Ao16 t286.length co16] (0, 0) _ rfl (by (with_reducible repeat (first | refine blk_drewN ?_ _ | refine blk_drew ?_ | refine blk_alloc ?_ _)); refine blk_put (cs := #[.slice Ao11 t283.length co11, .slice none 0 0]) ?_ 1 _ rfl; (with_reducible repeat (first | refine blk_drewN ?_ _ | refine blk_drew ?_ | refine blk_alloc ?_ _)); refine blk_put (cs := #[.slice none 0 0, .slice none 0 0]) ?_ 0 _ rfl; (with_reducible repeat (first | refine blk_drewN ?_ _ | refine blk_drew ?_ | refine blk_alloc ?_ _)); refine blk_far ?_ NB281_282.out _; exact bT_ BK281) Try.underlying27 rfl (by kernel_rfl)) rfl ?_
 exact ⟨_, _, by first | rfl | (simp [errW_none, errW_some] <;> rfl) | (simp [*, errW_none, errW_some] <;> rfl), by (with_reducible repeat (first | apply Kd.S_alloc | apply Kd.S_drewN | apply Kd.S_drew)); exact Kd.S_mono (Kd.S_far (p := ⟨gb281, 1, none⟩) (Kd.S_far (p := ⟨gb281, 0, none⟩) (Kd.S_far (p := ⟨gb282, 1, none⟩) (Kd.S_types (Kd.S_types HO285.out BK282.out (by decide)) BK281.out (by decide)) (fun _ hk => hk.1.2) (.slice Ao16 t286.length co16)) (fun _ hk => hk.2) (.slice Ao11 t283.length co11)) (fun _ hk => hk.2) (.slice Ao16 t286.length co16)) (fun _ hk => hk.1.1.2), by (with_reducible repeat (first | apply Kd.R_alloc | apply Kd.R_drewN | apply Kd.R_drew)); exact Kd.R_mono (Kd.R_far (p := ⟨gb281, 1, none⟩) (Kd.R_far (p := ⟨gb281, 0, none⟩) (Kd.R_far (p := ⟨gb282, 1, none⟩) (Kd.R_types (Kd.R_types HO288.out BK282.out (by decide)) BK281.out (by decide)) (fun _ hk => hk.1.2) (.slice Ao16 t286.length co16)) (fun _ hk => hk.2) (.slice Ao11 t283.length co11)) (fun _ hk => hk.2) (.slice Ao16 t286.length co16)) (fun _ hk => trivial), sABelo_13⟩

/-! ### laws_toJob: function 90 -/
def laws_toJob.f (a0_0 : Int) (a0_1 : Int) : Option (Int × Int) := some (a0_0, a0_1)
set_option maxHeartbeats 8000000 in
set_option maxRecDepth 100000 in
theorem laws_toJob.calls (a0_0 : Int) (a0_1 : Int) (r1 : Int) (r2 : Int) (w : World) (h : laws_toJob.f a0_0 a0_1 = some (r1, r2)) :
  Calls Try.prog 90 #[.agg #[.int .i64 a0_0, .int .i64 a0_1]] w fun e w' => e = .returned (.agg #[.int .i64 r1, .int .i64 r2]) ∧ Below w.heap.size w w' := by
 have hu115 := Try.underlying115; have hu43 := Try.underlying43
 have HB := Aside0.mk (Below.refl w.heap.size w)
 have H : (some (a0_0, a0_1)) = some (r1, r2) := h
 clear h
 simp only [Option.some.injEq, Prod.mk.injEq] at H
 obtain ⟨rfl, rfl⟩ := H
 go_enter Try.func90, Try.ntmps90
 go_wp2_with (first | ((with_reducible refine gate_dst (N := 1) rfl ?_); refine box_event ?hg (N := 1) ?hd (cs := #[.int .i64 a0_0, .int .i64 a0_1]) (t := 115) ?hr ?_; (case hd => rfl); (case hg => rfl); (case hr => first | (go_simp; done) | (go_simp; rfl)); intro gb289 hg w2 hbox hb; have BK289 := Aside0.mk (hbox); have GW289 := gE_ HB hg; have GE289 := gE_ HB hg; replace HB := bS_ HB hb; clear hb hbox hg) | ((with_reducible refine gate_dst (N := 2) rfl ?_); refine box_event ?hg (N := 2) ?hd (cs := #[.int .i64 0, .int .i64 0]) (t := 43) ?hr ?_; (case hd => rfl); (case hg => rfl); (case hr => first | (go_simp; done) | (go_simp; rfl)); intro gb290 hg w3 hbox hb; have BK290 := Aside0.mk (hbox); have GW290 := gE_ HB hg; have GE290 := gE_ HB hg; replace HB := bS_ HB hb; have NB289_290 := nL_ BK289 hg; have NB290_289 := nG_ BK289 hg; replace BK289 := bB_ BK289 hb; clear hb hbox hg) | ((with_reducible refine gate_dst (N := 3) rfl ?_); refine box_event ?hg (N := 3) ?hd (cs := #[.int .i64 0, .int .i64 0]) (t := 43) ?hr ?_; (case hd => rfl); (case hg => rfl); (case hr => first | (go_simp; done) | (go_simp; rfl)); intro gb291 hg w4 hbox hb; have BK291 := Aside0.mk (hbox); have GW291 := gE_ HB hg; have GE291 := gE_ HB hg; replace HB := bS_ HB hb; have NB289_291 := nL_ BK289 hg; have NB291_289 := nG_ BK289 hg; replace BK289 := bB_ BK289 hb; have NB290_291 := nL_ BK290 hg; have NB291_290 := nG_ BK290 hg; replace BK290 := bB_ BK290 hb; clear hb hbox hg; have hnb5 := NB289_290.out; have hnc5 := NB290_289.out; have hnb6 := NB289_291.out; have hnc6 := NB291_289.out; obtain ⟨hcz7_0, hcz7_1, hfz7_0, hfz7_1⟩ := cf2_ BK289; have hnb8 := NB291_290.out; have hnc8 := NB290_291.out; obtain ⟨hcz9_0, hcz9_1, hfz9_0, hfz9_1⟩ := cf2_ BK291; obtain ⟨hcz10_0, hcz10_1, hfz10_0, hfz10_1⟩ := cf2_ BK290))
 refine bodyPost_ret (results_cell_row rfl _ _ gb290 43 #[.int .i64 a0_0, .int .i64 a0_1] (0, 0) _ rfl (by (with_reducible repeat (first | refine blk_drewN ?_ _ | refine blk_drew ?_ | refine blk_alloc ?_ _)); refine blk_put (cs := #[.int .i64 a0_0, .int .i64 0]) ?_ 1 _ rfl; (with_reducible repeat (first | refine blk_drewN ?_ _ | refine blk_drew ?_ | refine blk_alloc ?_ _)); refine blk_put (cs := #[.int .i64 0, .int .i64 0]) ?_ 0 _ rfl; (with_reducible repeat (first | refine blk_drewN ?_ _ | refine blk_drew ?_ | refine blk_alloc ?_ _)); refine blk_far ?_ NB290_291.out _; (with_reducible repeat (first | refine blk_drewN ?_ _ | refine blk_drew ?_ | refine blk_alloc ?_ _)); refine blk_far ?_ NB290_291.out _; exact bT_ BK290) Try.underlying43 rfl (by kernel_rfl)) rfl ?_
 exact ⟨by first | rfl | (simp [errW_none, errW_some] <;> rfl) | (simp [*, errW_none, errW_some] <;> rfl), sABelo_13⟩

end Go.Proofs.Ytjoghfehmhapbaa.QFnExactStuck
