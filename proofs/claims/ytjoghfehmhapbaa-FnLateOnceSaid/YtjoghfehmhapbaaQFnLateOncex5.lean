-- Written by a program of this session out of the printer's texts and contracts of its own.
import Derived.Test.YtjoghfehmhapbaaSq
import Derived.Test.YtjoghfehmhapbaaQFnLateOncex0
namespace Go.Proofs.Ytjoghfehmhapbaa.QFnLateOnce
open Go.RowKit Go.Proofs.YtjoghfehmhapbaaW.PrintWords Go.Proofs.YtjoghfehmhapbaaW.PrintLast Go.Proofs.YtjoghfehmhapbaaW.PrintMore Go.Proofs.Ytjoghfehmhapbaa.Sq
attribute [local go_sem] max2_int min2_int max_two min_two max_three min_three max_four min_four   -- for this text's walks alone
set_option linter.unusedVariables false
set_option linter.unusedSimpArgs false
theorem sABelo_5 {b : Nat} {w W : World} (h : Below b w W := by repeat (first | (with_reducible first | exact Aside0.out (by assumption) | apply below_alloc | apply pw_below_drewN | apply below_drew1 | refine below_set ?_ (Aside0.out (by assumption))) | exact Aside0.out (by assumption))) : Below b w W := h

/-! ### spec_l24Running: function 75 -/
def spec_l24Running.l0 : Nat → Int → Int → Int → List (S39) → List Int → Int → List (S43) → Option (Int)
 | 0, _, _, _, _, _, _, _ => none
 | k + 1, x1, x5, x6, x163000, x163001, x163002, x163003 => if x6 < (x163003.length : Int) then (if 0 ≤ x6 then (if ((rd_T43 x163003 x6).f0) = 1 then (if x6 < (x163000.length : Int) then (if ((rd_T39 x163000 x6).f1) = x1 then (spec_l24Running.l0 k x1 (wrap64 (x5 + 1)) (wrap64 (x6 + 1)) x163000 x163001 x163002 x163003) else (spec_l24Running.l0 k x1 x5 (wrap64 (x6 + 1)) x163000 x163001 x163002 x163003)) else (none)) else (spec_l24Running.l0 k x1 x5 (wrap64 (x6 + 1)) x163000 x163001 x163002 x163003)) else (none)) else (some x5)
def spec_l24Running.f (k : Nat) (l0_0 : List (S39)) (l0_1 : List Int) (a0_2 : Int) (l0_3 : List (S43)) (a1 : Int) : Option (Int) := spec_l24Running.l0 k a1 0 0 l0_0 l0_1 a0_2 l0_3
theorem spec_l24Running.mono_l : ∀ k, (∀ y0 y1 y2 y3 y4 y5 y6, LeO (spec_l24Running.l0 k y0 y1 y2 y3 y4 y5 y6) (spec_l24Running.l0 (k + 1) y0 y1 y2 y3 y4 y5 y6))
 | 0 => fun _ _ _ _ _ _ _ r h => by simp [spec_l24Running.l0] at h
 | k + 1 => by
  have ih0 := spec_l24Running.mono_l k
  ·intro y0 y1 y2 y3 y4 y5 y6
   unfold spec_l24Running.l0
   repeat' first
   | (with_reducible exact ih0 _ _ _ _ _ _ _)
   | (with_reducible exact LeO.refl _)
   | (with_reducible exact LeO.none _)
   | (with_reducible refine LeO.ite ?_ ?_)
   | (with_reducible refine LeO.bind ?_ (fun _ => ?_))
   | exact ih0 _ _ _ _ _ _ _
   | exact LeO.none _
   | refine LeO.ite ?_ ?_
   | refine LeO.bind ?_ (fun _ => ?_)
theorem spec_l24Running.mono : ∀ a0 a1 a2 a3 a4 k, LeO (spec_l24Running.f k a0 a1 a2 a3 a4) (spec_l24Running.f (k + 1) a0 a1 a2 a3 a4) := by
 intro a0 a1 a2 a3 a4 k
 have ih0 := spec_l24Running.mono_l k
 unfold spec_l24Running.f
 repeat' first
   | (with_reducible exact ih0 _ _ _ _ _ _ _)
   | (with_reducible exact LeO.refl _)
   | (with_reducible exact LeO.none _)
   | (with_reducible refine LeO.ite ?_ ?_)
   | (with_reducible refine LeO.bind ?_ (fun _ => ?_))
   | exact ih0 _ _ _ _ _ _ _
   | exact LeO.none _
   | refine LeO.ite ?_ ?_
   | refine LeO.bind ?_ (fun _ => ?_)
set_option maxHeartbeats 8000000 in
set_option maxRecDepth 100000 in
theorem spec_l24Running.calls (k : Nat) (A0_0 : Option Addr) (c0_0 : Nat) (l0_0 : List (S39)) (A0_1 : Option Addr) (c0_1 : Nat) (l0_1 : List Int) (a0_2 : Int) (A0_3 : Option Addr) (c0_3 : Nat) (l0_3 : List (S43)) (a1 : Int) (r : Int) (w : World) (hr0_0 : Kd.C k39 w A0_0 l0_0.length l0_0) (hc0_0 : l0_0.length ≤ c0_0) (hr0_1 : Kd.C (Kd.int .i64) w A0_1 l0_1.length l0_1) (hc0_1 : l0_1.length ≤ c0_1) (hr0_3 : Kd.C k43 w A0_3 l0_3.length l0_3) (hc0_3 : l0_3.length ≤ c0_3) (h : spec_l24Running.f k l0_0 l0_1 a0_2 l0_3 a1 = some r) :
  Calls Try.prog 75 #[.agg #[.slice A0_0 l0_0.length c0_0, .slice A0_1 l0_1.length c0_1, .int .i64 a0_2, .slice A0_3 l0_3.length c0_3], .int .i64 a1] w fun e w' => e = .returned (.int .i64 r) ∧ Below w.heap.size w w' := by
 have hu31 := Try.underlying31; have HR0_0 := mk_ hr0_0; have HC0_0 := mk_ hc0_0; clear hr0_0 hc0_0; have HR0_1 := mk_ hr0_1; have HC0_1 := mk_ hc0_1; clear hr0_1 hc0_1; have HR0_3 := mk_ hr0_3; have HC0_3 := mk_ hc0_3; clear hr0_3 hc0_3
 have HB := mk_ (Below.refl w.heap.size w)
 have H : (spec_l24Running.l0 k a1 0 0 l0_0 l0_1 a0_2 l0_3) = some r := h
 clear h; have H' := mk_ H; clear H
 go_enter Try.func75, Try.ntmps75
 go_wp2_with (first | ((with_reducible refine gate_dst (N := 2) rfl ?_); refine box_event ?hg (N := 2) ?hd (cs := #[.slice A0_0 l0_0.length c0_0, .slice A0_1 l0_1.length c0_1, .int .i64 a0_2, .slice A0_3 l0_3.length c0_3]) (t := 31) ?hr ?_; (case hd => rfl); (case hg => rfl); (case hr => first | (go_simp; done) | (go_simp; rfl)); intro gb162 hg w3 hbox hb; have BK162 := mk_ (hbox); have GW162 := gE_ HB hg; have GE162 := gE_ HB hg; replace HB := bS_ HB hb; clear hb hbox hg))
 go_loopg [5, 6] k (fun kq v5 v6 w' => ∃ (x5_1 : Int) (x6_1 : Int), v5 = .int .i64 x5_1 ∧ v6 = .int .i64 x6_1 ∧ Aside0 (spec_l24Running.l0 kq a1 x5_1 x6_1 l0_0 l0_1 a0_2 l0_3 = some r) ∧ Aside0 (kq ≤ k) ∧ Aside0 (w'.heap[gb162]? = some (.cells #[(.slice A0_0 l0_0.length c0_0), (.slice A0_1 l0_1.length c0_1), .int .i64 a0_2, (.slice A0_3 l0_3.length c0_3)] 31 (0, 0))) ∧ Aside0 (Below w.heap.size w w'))
 case atStart => exact ⟨(0), (0), eS_, eS_, H', ⟨Nat.le_refl _⟩, ⟨bT_ BK162⟩, ⟨sABelo_5⟩⟩
 case round =>
  clear H'
  obtain ⟨x5_1, x6_1, rfl, rfl, HA, HK1, BK162, HB⟩ := hrel
  cases gk with
  | zero => exact absurd HA.out (by simp [spec_l24Running.l0])
  | succ k1 =>
   have H := HA.out; clear HA
   simp only [spec_l24Running.l0] at H
   by_cases c4 : x6_1 < (l0_3.length : Int)
   ·rw [if_pos c4] at H
    have c4b0 := decide_eq_true c4
    clear c4
    obtain ⟨c5, H⟩ := ifS_ H
    have c5b0 : decide (0 ≤ x6_1) = true := decide_eq_true c5
    clear c5
    by_cases c6 : ((rd_T43 l0_3 x6_1).f0) = 1
    ·rw [if_pos c6] at H
     have c6b0 := beq_iff_eq.mpr c6
     have c6b1 := bne_eq_false_iff_eq.mpr c6
     clear c6
     obtain ⟨c7, H⟩ := ifS_ H
     have c7b0 : decide (x6_1 < (l0_0.length : Int)) = true := decide_eq_true c7
     clear c7
     by_cases c8 : ((rd_T39 l0_0 x6_1).f1) = a1
     ·rw [if_pos c8] at H
      have c8b0 := beq_iff_eq.mpr c8
      have c8b1 := bne_eq_false_iff_eq.mpr c8
      clear c8; have H' := mk_ H; clear H
      obtain ⟨hcz9_0, hcz9_1, hcz9_2, hcz9_3, hfz9_0, hfz9_1, hfz9_2, hfz9_3⟩ := cf4_ BK162
      have p163 : 0 ≤ (x6_1 : Int) := dA_
      have q163 : x6_1 < (l0_3.length : Int) := dA_
      obtain ⟨ad163, e163, hx163_0, hx163_1⟩ := at_T43 HR0_3.out x6_1 p163 q163
      cases e163
      replace hx163_0 := hX_ HB hx163_0
      replace hx163_1 := hX_ HB hx163_1
      replace p163 := eq_true p163; replace q163 := eq_true q163
      have p164 : 0 ≤ (x6_1 : Int) := dA_
      have q164 : x6_1 < (l0_0.length : Int) := dA_
      obtain ⟨ad164, A164_0, c164_0, e164, hx164_0, hx164_1, hx164_2, hx164_3, hl164_0, hi164_0⟩ := at_T39 HR0_0.out x6_1 p164 q164
      cases e164
      replace hx164_0 := hX_ HB hx164_0
      replace hx164_1 := hX_ HB hx164_1
      replace hx164_2 := hX_ HB hx164_2
      replace hx164_3 := hX_ HB hx164_3
      have HR164_0 := mk_ hi164_0; have HC164_0 := mk_ hl164_0; clear hi164_0 hl164_0; replace p164 := eq_true p164; replace q164 := eq_true q164
      go_wp2
      go_roundg k1
      case measure => have := HK1.out; omega
      case rel => exact ⟨(wrap64 (x5_1 + 1)), (wrap64 (x6_1 + 1)), eS_, eS_, H', ⟨by have := HK1.out; omega⟩, ⟨bT_ BK162⟩, ⟨sABelo_5⟩⟩
     ·rw [if_neg c8] at H
      have c8b0 := beq_eq_false_iff_ne.mpr c8
      have c8b1 := bne_iff_ne.mpr c8
      have H' := mk_ H; clear H
      obtain ⟨hcz10_0, hcz10_1, hcz10_2, hcz10_3, hfz10_0, hfz10_1, hfz10_2, hfz10_3⟩ := cf4_ BK162
      have p163 : 0 ≤ (x6_1 : Int) := dA_
      have q163 : x6_1 < (l0_3.length : Int) := dA_
      obtain ⟨ad163, e163, hx163_0, hx163_1⟩ := at_T43 HR0_3.out x6_1 p163 q163
      cases e163
      replace hx163_0 := hX_ HB hx163_0
      replace hx163_1 := hX_ HB hx163_1
      replace p163 := eq_true p163; replace q163 := eq_true q163
      have p164 : 0 ≤ (x6_1 : Int) := dA_
      have q164 : x6_1 < (l0_0.length : Int) := dA_
      obtain ⟨ad164, A164_0, c164_0, e164, hx164_0, hx164_1, hx164_2, hx164_3, hl164_0, hi164_0⟩ := at_T39 HR0_0.out x6_1 p164 q164
      cases e164
      replace hx164_0 := hX_ HB hx164_0
      replace hx164_1 := hX_ HB hx164_1
      replace hx164_2 := hX_ HB hx164_2
      replace hx164_3 := hX_ HB hx164_3
      have HR164_0 := mk_ hi164_0; have HC164_0 := mk_ hl164_0; clear hi164_0 hl164_0; replace p164 := eq_true p164; replace q164 := eq_true q164
      go_wp2
      go_roundg k1
      case measure => have := HK1.out; omega
      case rel => exact ⟨(x5_1), (wrap64 (x6_1 + 1)), eS_, eS_, H', ⟨by have := HK1.out; omega⟩, ⟨bT_ BK162⟩, ⟨sABelo_5⟩⟩
    ·rw [if_neg c6] at H
     have c6b0 := beq_eq_false_iff_ne.mpr c6
     have c6b1 := bne_iff_ne.mpr c6
     have H' := mk_ H; clear H
     obtain ⟨hcz11_0, hcz11_1, hcz11_2, hcz11_3, hfz11_0, hfz11_1, hfz11_2, hfz11_3⟩ := cf4_ BK162
     have p163 : 0 ≤ (x6_1 : Int) := dA_
     have q163 : x6_1 < (l0_3.length : Int) := dA_
     obtain ⟨ad163, e163, hx163_0, hx163_1⟩ := at_T43 HR0_3.out x6_1 p163 q163
     cases e163
     replace hx163_0 := hX_ HB hx163_0
     replace hx163_1 := hX_ HB hx163_1
     replace p163 := eq_true p163; replace q163 := eq_true q163
     go_wp2
     go_roundg k1
     case measure => have := HK1.out; omega
     case rel => exact ⟨(x5_1), (wrap64 (x6_1 + 1)), eS_, eS_, H', ⟨by have := HK1.out; omega⟩, ⟨bT_ BK162⟩, ⟨sABelo_5⟩⟩
   ·rw [if_neg c4] at H
    have c4b0 := decide_eq_false c4
    clear c4
    obtain rfl := Option.some.inj H
    obtain ⟨hcz12_0, hcz12_1, hcz12_2, hcz12_3, hfz12_0, hfz12_1, hfz12_2, hfz12_3⟩ := cf4_ BK162
    go_wp2
    go_ret
    exact ⟨eW_, sABelo_5⟩

end Go.Proofs.Ytjoghfehmhapbaa.QFnLateOnce
