-- Written by a program of this session out of the printer's texts and contracts of its own.
import Derived.Test.YtcjhbmjimjbphaaSq
import Derived.Test.YtcjhbmjimjbphaaQFnDescendsx0
import Derived.Test.YtcjhbmjimjbphaaQFnDescendsx4
namespace Go.Proofs.Ytcjhbmjimjbphaa.QFnDescends
open Go.RowKit Go.Proofs.YtcjhbmjimjbphaaW.PrintWords Go.Proofs.YtcjhbmjimjbphaaW.PrintLast Go.Proofs.YtcjhbmjimjbphaaW.PrintMore Go.Proofs.Ytcjhbmjimjbphaa.Sq
attribute [local go_sem] max2_int min2_int max_two min_two max_three min_three max_four min_four   -- for this text's walks alone
set_option linter.unusedVariables false
set_option linter.unusedSimpArgs false
theorem sABelo_5 {b : Nat} {w W : World} (h : Below b w W := by repeat (first | (with_reducible first | exact Aside0.out (by assumption) | apply below_alloc | apply pw_below_drewN | apply below_drew1 | refine below_set ?_ (Aside0.out (by assumption))) | exact Aside0.out (by assumption))) : Below b w W := h

/-! ### impl_cost: function 33 -/
mutual
def impl_cost.l0 : Nat → List Int → Int → List Int → Int → Int → Int → List Int → List Int → List (S52) → Option (Int)
 | 0, _, _, _, _, _, _, _, _, _ => none
 | k + 1, x1, x5, x14, x15, x16, x141000, x141001, x141002, x141003 => if x16 < x15 then (if 0 ≤ x16 then (if x16 < (x14.length : Int) then (if x16 < (x141002.length : Int) then (if x16 < (x1.length : Int) then (impl_cost.l0 k x1 (wrap64 (x5 + (wrap64 ((wrap64 ((rd x141002 x16) * (wrap64 ((rd x1 x16) - (rd x14 x16))))) * (wrap64 ((rd x1 x16) - (rd x14 x16))))))) x14 x15 (wrap64 (x16 + 1)) x141000 x141001 x141002 x141003) else (none)) else (none)) else (none)) else (none)) else (impl_cost.l1 k x1 x5 x141003 (x141003.length : Int) 0)
def impl_cost.l1 : Nat → List Int → Int → List (S52) → Int → Int → Option (Int)
 | 0, _, _, _, _, _ => none
 | k + 1, x1, x5, x44, x45, x46 => if x46 < x45 then (if 0 ≤ x46 then (if x46 < (x44.length : Int) then (impl_cost.l2 k x1 x5 (wrap64 (-((rd_T52 x44 x46).f1))) x44 x45 x46 ((rd_T52 x44 x46).f0) (((rd_T52 x44 x46).f0).length : Int) 0 ((rd_T52 x44 x46).f0) ((rd_T52 x44 x46).f1) ((rd_T52 x44 x46).f2)) else (none)) else (none)) else (some x5)
def impl_cost.l2 : Nat → List Int → Int → Int → List (S52) → Int → Int → List Int → Int → Int → List Int → Int → Int → Option (Int)
 | 0, _, _, _, _, _, _, _, _, _, _, _, _ => none
 | k + 1, x1, x5, x10, x44, x45, x46, x54, x55, x56, x147000, x147001, x147002 => if x56 < x55 then (if 0 ≤ x56 then (if x56 < (x54.length : Int) then (if x56 < (x1.length : Int) then (impl_cost.l2 k x1 x5 (wrap64 (x10 + (wrap64 ((rd x54 x56) * (rd x1 x56))))) x44 x45 x46 x54 x55 (wrap64 (x56 + 1)) x147000 x147001 x147002) else (none)) else (none)) else (none)) else (impl_cost.l1 k x1 (wrap64 (x5 + (wrap64 ((wrap64 (x147002 * x10)) * x10)))) x44 x45 (wrap64 (x46 + 1)))
end
def impl_cost.f (k : Nat) (a0_0 : Int) (l0_1 : List Int) (l0_2 : List Int) (l0_3 : List (S52)) (l1 : List Int) : Option (Int) := impl_cost.l0 k l1 0 l0_1 (l0_1.length : Int) 0 a0_0 l0_1 l0_2 l0_3
theorem impl_cost.mono_l : ∀ k, (∀ y0 y1 y2 y3 y4 y5 y6 y7 y8, LeO (impl_cost.l0 k y0 y1 y2 y3 y4 y5 y6 y7 y8) (impl_cost.l0 (k + 1) y0 y1 y2 y3 y4 y5 y6 y7 y8)) ∧ (∀ y0 y1 y2 y3 y4, LeO (impl_cost.l1 k y0 y1 y2 y3 y4) (impl_cost.l1 (k + 1) y0 y1 y2 y3 y4)) ∧ (∀ y0 y1 y2 y3 y4 y5 y6 y7 y8 y9 y10 y11, LeO (impl_cost.l2 k y0 y1 y2 y3 y4 y5 y6 y7 y8 y9 y10 y11) (impl_cost.l2 (k + 1) y0 y1 y2 y3 y4 y5 y6 y7 y8 y9 y10 y11))
 | 0 => ⟨fun _ _ _ _ _ _ _ _ _ r h => by simp [impl_cost.l0] at h, fun _ _ _ _ _ r h => by simp [impl_cost.l1] at h, fun _ _ _ _ _ _ _ _ _ _ _ _ r h => by simp [impl_cost.l2] at h⟩
 | k + 1 => by
  obtain ⟨ih0, ih1, ih2⟩ := impl_cost.mono_l k
  refine ⟨?_, ?_, ?_⟩
  intro y0 y1 y2 y3 y4 y5 y6 y7 y8; unfold impl_cost.l0; rotate_left
  intro y0 y1 y2 y3 y4; unfold impl_cost.l1; rotate_left
  intro y0 y1 y2 y3 y4 y5 y6 y7 y8 y9 y10 y11; unfold impl_cost.l2; rotate_left
  all_goals repeat' first
  | (with_reducible exact ih0 _ _ _ _ _ _ _ _ _)
  | (with_reducible exact ih1 _ _ _ _ _)
  | (with_reducible exact ih2 _ _ _ _ _ _ _ _ _ _ _ _)
  | (with_reducible exact LeO.refl _)
  | (with_reducible exact LeO.none _)
  | (with_reducible refine LeO.ite ?_ ?_)
  | (with_reducible refine LeO.bind ?_ (fun _ => ?_))
  | exact ih0 _ _ _ _ _ _ _ _ _
  | exact ih1 _ _ _ _ _
  | exact ih2 _ _ _ _ _ _ _ _ _ _ _ _
  | exact LeO.none _
  | refine LeO.ite ?_ ?_
  | refine LeO.bind ?_ (fun _ => ?_)
theorem impl_cost.mono : ∀ a0 a1 a2 a3 a4 k, LeO (impl_cost.f k a0 a1 a2 a3 a4) (impl_cost.f (k + 1) a0 a1 a2 a3 a4) := by
 intro a0 a1 a2 a3 a4 k
 obtain ⟨ih0, ih1, ih2⟩ := impl_cost.mono_l k
 unfold impl_cost.f
 repeat' first
   | (with_reducible exact ih0 _ _ _ _ _ _ _ _ _)
   | (with_reducible exact ih1 _ _ _ _ _)
   | (with_reducible exact ih2 _ _ _ _ _ _ _ _ _ _ _ _)
   | (with_reducible exact LeO.refl _)
   | (with_reducible exact LeO.none _)
   | (with_reducible refine LeO.ite ?_ ?_)
   | (with_reducible refine LeO.bind ?_ (fun _ => ?_))
   | exact ih0 _ _ _ _ _ _ _ _ _
   | exact ih1 _ _ _ _ _
   | exact ih2 _ _ _ _ _ _ _ _ _ _ _ _
   | exact LeO.none _
   | refine LeO.ite ?_ ?_
   | refine LeO.bind ?_ (fun _ => ?_)
set_option maxHeartbeats 8000000 in
set_option maxRecDepth 100000 in
theorem impl_cost.calls (k : Nat) (a0_0 : Int) (A0_1 : Option Addr) (c0_1 : Nat) (l0_1 : List Int) (A0_2 : Option Addr) (c0_2 : Nat) (l0_2 : List Int) (A0_3 : Option Addr) (c0_3 : Nat) (l0_3 : List (S52)) (A1 : Option Addr) (c1 : Nat) (l1 : List Int) (r : Int) (w : World) (hr0_1 : Kd.C (Kd.int .i64) w A0_1 l0_1.length l0_1) (hc0_1 : l0_1.length ≤ c0_1) (hr0_2 : Kd.C (Kd.int .i64) w A0_2 l0_2.length l0_2) (hc0_2 : l0_2.length ≤ c0_2) (hr0_3 : Kd.C k52 w A0_3 l0_3.length l0_3) (hc0_3 : l0_3.length ≤ c0_3) (hr1 : Kd.C (Kd.int .i64) w A1 l1.length l1) (hc1 : l1.length ≤ c1) (h : impl_cost.f k a0_0 l0_1 l0_2 l0_3 l1 = some r) :
  Calls Try.prog 33 #[.agg #[.int .i64 a0_0, .slice A0_1 l0_1.length c0_1, .slice A0_2 l0_2.length c0_2, .slice A0_3 l0_3.length c0_3], .slice A1 l1.length c1] w fun e w' => e = .returned (.int .i64 r) ∧ Below w.heap.size w w' := by
 have hu30 := Try.underlying30; have hu52 := Try.underlying52; have HR0_1 := Aside0.mk hr0_1; have HC0_1 := Aside0.mk hc0_1; clear hr0_1 hc0_1; have HR0_2 := Aside0.mk hr0_2; have HC0_2 := Aside0.mk hc0_2; clear hr0_2 hc0_2; have HR0_3 := Aside0.mk hr0_3; have HC0_3 := Aside0.mk hc0_3; clear hr0_3 hc0_3; have HR1 := Aside0.mk hr1; have HC1 := Aside0.mk hc1; clear hr1 hc1
 have HB := Aside0.mk (Below.refl w.heap.size w)
 have H : (impl_cost.l0 k l1 0 l0_1 (l0_1.length : Int) 0 a0_0 l0_1 l0_2 l0_3) = some r := h
 clear h; have H' := Aside0.mk H; clear H
 go_enter Try.func33, Try.ntmps33
 have START_ := True.intro
 repeat ((first | go_quiet (fail) | clear START_); try go_wp2_with (first | ((with_reducible refine gate_dst (N := 2) rfl ?_); refine box_event ?hg (N := 2) ?hd (cs := #[.int .i64 a0_0, .slice A0_1 l0_1.length c0_1, .slice A0_2 l0_2.length c0_2, .slice A0_3 l0_3.length c0_3]) (t := 30) ?hr ?_; (case hd => rfl); (case hg => rfl); (case hr => first | (go_simp; done) | (go_simp; rfl)); intro gb140 hg w3 hbox hb; have BK140 := Aside0.mk (hbox); have GW140 := gE_ HB hg; have GE140 := gE_ HB hg; replace HB := bS_ HB hb; clear hb hbox hg; obtain ⟨hcz4_0, hcz4_1, hcz4_2, hcz4_3, hfz4_0, hfz4_1, hfz4_2, hfz4_3⟩ := cf4_ BK140)))
 go_loopg [5, 16] k (fun kq v5 v16 w' => ∃ (x5_1 : Int) (x16_1 : Int), v5 = .int .i64 x5_1 ∧ v16 = .int .i64 x16_1 ∧ Aside0 (impl_cost.l0 kq l1 x5_1 l0_1 (l0_1.length : Int) x16_1 a0_0 l0_1 l0_2 l0_3 = some r) ∧ Aside0 (kq ≤ k) ∧ Aside0 (w'.heap[gb140]? = some (.cells #[.int .i64 a0_0, (.slice A0_1 l0_1.length c0_1), (.slice A0_2 l0_2.length c0_2), (.slice A0_3 l0_3.length c0_3)] 30 (0, 0))) ∧ Aside0 (Below w.heap.size w w'))
 case atStart => exact ⟨(0), (0), (by first | rfl | (simp; done) | (simp [*]; done)), (by first | rfl | (simp; done) | (simp [*]; done)), H', ⟨Nat.le_refl _⟩, ⟨bT_ BK140⟩, ⟨sABelo_5⟩⟩
 case round =>
  clear H'; (try clear c1); (try clear hcz4_0); (try clear hcz4_1); (try clear hcz4_2); (try clear hcz4_3); (try clear hfz4_0); (try clear hfz4_1); (try clear hfz4_2); (try clear hfz4_3)
  obtain ⟨x5_1, x16_1, rfl, rfl, HA, HK1, BK140, HB⟩ := hrel
  cases gk with
  | zero => exact absurd HA.out (by simp [impl_cost.l0])
  | succ k1 =>
   have H := HA.out; clear HA
   simp only [impl_cost.l0] at H
   by_cases c5 : x16_1 < (l0_1.length : Int)
   ·rw [if_pos c5] at H
    have c5b0 := decide_eq_true c5
    clear c5
    obtain ⟨c6, H⟩ := ifS_ H
    have c6b0 : decide (0 ≤ x16_1) = true := decide_eq_true c6
    clear c6
    obtain ⟨c7, H⟩ := ifS_ H
    have c7b0 : decide (x16_1 < (l0_1.length : Int)) = true := decide_eq_true c7
    clear c7
    obtain ⟨c8, H⟩ := ifS_ H
    have c8b0 : decide (x16_1 < (l0_2.length : Int)) = true := decide_eq_true c8
    clear c8
    obtain ⟨c9, H⟩ := ifS_ H
    have c9b0 : decide (x16_1 < (l1.length : Int)) = true := decide_eq_true c9
    clear c9; have H' := Aside0.mk H; clear H
    have p141 : 0 ≤ (x16_1 : Int) := dA_
    have q141 : x16_1 < (l0_1.length : Int) := dA_
    obtain ⟨ad141, e141, hx141_0⟩ := Kd.at_int HR0_1.out x16_1 p141 q141
    cases e141
    replace hx141_0 := hX_ HB hx141_0
    replace p141 := eq_true p141; replace q141 := eq_true q141
    obtain ⟨hcz10_0, hcz10_1, hcz10_2, hcz10_3, hfz10_0, hfz10_1, hfz10_2, hfz10_3⟩ := cf4_ BK140
    have p142 : 0 ≤ (x16_1 : Int) := dA_
    have q142 : x16_1 < (l0_2.length : Int) := dA_
    obtain ⟨ad142, e142, hx142_0⟩ := Kd.at_int HR0_2.out x16_1 p142 q142
    cases e142
    replace hx142_0 := hX_ HB hx142_0
    replace p142 := eq_true p142; replace q142 := eq_true q142
    have p143 : 0 ≤ (x16_1 : Int) := dA_
    have q143 : x16_1 < (l1.length : Int) := dA_
    obtain ⟨ad143, e143, hx143_0⟩ := Kd.at_int HR1.out x16_1 p143 q143
    cases e143
    replace hx143_0 := hX_ HB hx143_0
    replace p143 := eq_true p143; replace q143 := eq_true q143
    have p144 : 0 ≤ (x16_1 : Int) := dA_
    have q144 : x16_1 < (l1.length : Int) := dA_
    obtain ⟨ad144, e144, hx144_0⟩ := Kd.at_int HR1.out x16_1 p144 q144
    obtain rfl : ad143 = ad144 := (by injection e144)
    replace hx144_0 := hX_ HB hx144_0
    replace p144 := eq_true p144; replace q144 := eq_true q144
    go_wp2
    repeat (go_quiet (fail); try go_wp2)
    go_roundg k1
    case measure => have := HK1.out; omega
    case rel => exact ⟨(wrap64 (x5_1 + (wrap64 ((wrap64 ((rd l0_2 x16_1) * (wrap64 ((rd l1 x16_1) - (rd l0_1 x16_1))))) * (wrap64 ((rd l1 x16_1) - (rd l0_1 x16_1))))))), (wrap64 (x16_1 + 1)), (by first | rfl | (simp; done) | (simp [*]; done)), (by first | rfl | (simp; done) | (simp [*]; done)), H', ⟨by have := HK1.out; omega⟩, ⟨bT_ BK140⟩, ⟨sABelo_5⟩⟩
   ·rw [if_neg c5] at H
    have c5b0 := decide_eq_false c5
    clear c5; have H' := Aside0.mk H; clear H
    obtain ⟨hcz11_0, hcz11_1, hcz11_2, hcz11_3, hfz11_0, hfz11_1, hfz11_2, hfz11_3⟩ := cf4_ BK140
    go_wp2
    repeat (go_quiet (fail); try go_wp2)
    go_loopg [5, 46] k1 (fun kq v5 v46 w' => ∃ (x5_2 : Int) (x46_2 : Int), v5 = .int .i64 x5_2 ∧ v46 = .int .i64 x46_2 ∧ Aside0 (impl_cost.l1 kq l1 x5_2 l0_3 (l0_3.length : Int) x46_2 = some r) ∧ Aside0 (kq ≤ k1) ∧ Aside0 (w'.heap[gb140]? = some (.cells #[.int .i64 a0_0, (.slice A0_1 l0_1.length c0_1), (.slice A0_2 l0_2.length c0_2), (.slice A0_3 l0_3.length c0_3)] 30 (0, 0))) ∧ Aside0 (Below w.heap.size w w'))
    case atStart => exact ⟨(x5_1), (0), (by first | rfl | (simp; done) | (simp [*]; done)), (by first | rfl | (simp; done) | (simp [*]; done)), H', ⟨Nat.le_refl _⟩, ⟨bT_ BK140⟩, ⟨sABelo_5⟩⟩
    case round =>
     clear H'; (try clear c1); (try clear c5); (try clear c5b0); (try clear hcz11_0); (try clear hcz11_1); (try clear hcz11_2); (try clear hcz11_3); (try clear hcz4_0); (try clear hcz4_1); (try clear hcz4_2); (try clear hcz4_3); (try clear hfz11_0); (try clear hfz11_1); (try clear hfz11_2); (try clear hfz11_3); (try clear hfz4_0); (try clear hfz4_1); (try clear hfz4_2); (try clear hfz4_3)
     obtain ⟨x5_2, x46_2, rfl, rfl, HA, HK2, BK140, HB⟩ := hrel
     cases gk with
     | zero => exact absurd HA.out (by simp [impl_cost.l1])
     | succ k2 =>
      have H := HA.out; clear HA
      simp only [impl_cost.l1] at H
      by_cases c12 : x46_2 < (l0_3.length : Int)
      ·rw [if_pos c12] at H
       have c12b0 := decide_eq_true c12
       clear c12
       obtain ⟨c13, H⟩ := ifS_ H
       have c13b0 : decide (0 ≤ x46_2) = true := decide_eq_true c13
       clear c13
       obtain ⟨c14, H⟩ := ifS_ H
       have c14b0 : decide (x46_2 < (l0_3.length : Int)) = true := decide_eq_true c14
       clear c14; have H' := Aside0.mk H; clear H
       have p145 : 0 ≤ (x46_2 : Int) := dA_
       have q145 : x46_2 < (l0_3.length : Int) := dA_
       obtain ⟨ad145, A145_0, c145_0, e145, hx145_0, hx145_1, hx145_2, hl145_0, hi145_0⟩ := at_T52 HR0_3.out x46_2 p145 q145
       cases e145
       replace hx145_0 := hX_ HB hx145_0
       replace hx145_1 := hX_ HB hx145_1
       replace hx145_2 := hX_ HB hx145_2
       have HR145_0 := Aside0.mk hi145_0; have HC145_0 := Aside0.mk hl145_0; clear hi145_0 hl145_0; replace p145 := eq_true p145; replace q145 := eq_true q145
       have START_ := True.intro
       repeat ((first | go_quiet (fail) | clear START_); try go_wp2_with (first | ((with_reducible refine gate_dst (N := 9) rfl ?_); refine box_event ?hg (N := 9) ?hd (cs := #[.slice none 0 0, .int .i64 0, .int .i64 0]) (t := 52) ?hr ?_; (case hd => rfl); (case hg => rfl); (case hr => first | (go_simp; done) | (go_simp; rfl)); intro gb146 hg w15 hbox hb; have BK146 := Aside0.mk (hbox); have GW146 := gE_ HB hg; have GE146 := gE_ HB hg; replace HB := bS_ HB hb; have NB140_146 := nL_ BK140 hg; have NB146_140 := nG_ BK140 hg; replace BK140 := bB_ BK140 hb; clear hb hbox hg; have hnb16 := NB146_140.out; have hnc16 := NB140_146.out; obtain ⟨hcz17_0, hcz17_1, hcz17_2, hfz17_0, hfz17_1, hfz17_2⟩ := cf3_ BK146)))
       go_loopg [10, 56] k2 (fun kq v10 v56 w' => ∃ (x10_3 : Int) (x56_3 : Int), v10 = .int .i64 x10_3 ∧ v56 = .int .i64 x56_3 ∧ Aside0 (impl_cost.l2 kq l1 x5_2 x10_3 l0_3 (l0_3.length : Int) x46_2 ((rd_T52 l0_3 x46_2).f0) (((rd_T52 l0_3 x46_2).f0).length : Int) x56_3 ((rd_T52 l0_3 x46_2).f0) ((rd_T52 l0_3 x46_2).f1) ((rd_T52 l0_3 x46_2).f2) = some r) ∧ Aside0 (kq ≤ k2) ∧ Aside0 (w'.heap[gb140]? = some (.cells #[.int .i64 a0_0, (.slice A0_1 l0_1.length c0_1), (.slice A0_2 l0_2.length c0_2), (.slice (some ad145) l0_3.length c0_3)] 30 (0, 0))) ∧ Aside0 (w'.heap[gb146]? = some (.cells #[(.slice A145_0 ((rd_T52 l0_3 x46_2).f0).length c145_0), .int .i64 ((rd_T52 l0_3 x46_2).f1), .int .i64 ((rd_T52 l0_3 x46_2).f2)] 52 (0, 0))) ∧ Aside0 (Below w.heap.size w w'))
       case atStart => exact ⟨(wrap64 (-((rd_T52 l0_3 x46_2).f1))), (0), (by first | rfl | (simp; done) | (simp [*]; done)), (by first | rfl | (simp; done) | (simp [*]; done)), H', ⟨Nat.le_refl _⟩, ⟨bF_ BK140 NB140_146⟩, ⟨bP_ BK146⟩, ⟨sABelo_5⟩⟩
       case round =>
        clear H'; (try clear c1); (try clear c5); (try clear c5b0); (try clear c12); (try clear c12b0); (try clear c13); (try clear c13b0); (try clear c14); (try clear c14b0); (try clear hcz11_0); (try clear hcz11_1); (try clear hcz11_2); (try clear hcz11_3); (try clear hcz17_0); (try clear hcz17_1); (try clear hcz17_2); (try clear hcz4_0); (try clear hcz4_1); (try clear hcz4_2); (try clear hcz4_3); (try clear hfz11_0); (try clear hfz11_1); (try clear hfz11_2); (try clear hfz11_3); (try clear hfz17_0); (try clear hfz17_1); (try clear hfz17_2); (try clear hfz4_0); (try clear hfz4_1); (try clear hfz4_2); (try clear hfz4_3); (try clear hx145_0); (try clear hx145_1); (try clear hx145_2); (try clear p145); (try clear q145)
        obtain ⟨x10_3, x56_3, rfl, rfl, HA, HK3, BK140, BK146, HB⟩ := hrel
        cases gk with
        | zero => exact absurd HA.out (by simp [impl_cost.l2])
        | succ k3 =>
         have H := HA.out; clear HA
         simp only [impl_cost.l2] at H
         by_cases c18 : x56_3 < (((rd_T52 l0_3 x46_2).f0).length : Int)
         ·rw [if_pos c18] at H
          have c18b0 := decide_eq_true c18
          clear c18
          obtain ⟨c19, H⟩ := ifS_ H
          have c19b0 : decide (0 ≤ x56_3) = true := decide_eq_true c19
          clear c19
          obtain ⟨c20, H⟩ := ifS_ H
          have c20b0 : decide (x56_3 < (((rd_T52 l0_3 x46_2).f0).length : Int)) = true := decide_eq_true c20
          clear c20
          obtain ⟨c21, H⟩ := ifS_ H
          have c21b0 : decide (x56_3 < (l1.length : Int)) = true := decide_eq_true c21
          clear c21; have H' := Aside0.mk H; clear H
          have p147 : 0 ≤ (x56_3 : Int) := dA_
          have q147 : x56_3 < (((rd_T52 l0_3 x46_2).f0).length : Int) := dA_
          obtain ⟨ad147, e147, hx147_0⟩ := Kd.at_int HR145_0.out x56_3 p147 q147
          cases e147
          replace hx147_0 := hX_ HB hx147_0
          replace p147 := eq_true p147; replace q147 := eq_true q147
          have p148 : 0 ≤ (x56_3 : Int) := dA_
          have q148 : x56_3 < (l1.length : Int) := dA_
          obtain ⟨ad148, e148, hx148_0⟩ := Kd.at_int HR1.out x56_3 p148 q148
          cases e148
          replace hx148_0 := hX_ HB hx148_0
          replace p148 := eq_true p148; replace q148 := eq_true q148
          go_wp2
          repeat (go_quiet (fail); try go_wp2)
          go_roundg k3
          case measure => have := HK1.out; have := HK2.out; have := HK3.out; omega
          case rel => exact ⟨(wrap64 (x10_3 + (wrap64 ((rd ((rd_T52 l0_3 x46_2).f0) x56_3) * (rd l1 x56_3))))), (wrap64 (x56_3 + 1)), (by first | rfl | (simp; done) | (simp [*]; done)), (by first | rfl | (simp; done) | (simp [*]; done)), H', ⟨by have := HK1.out; have := HK2.out; have := HK3.out; omega⟩, ⟨bT_ BK140⟩, ⟨bT_ BK146⟩, ⟨sABelo_5⟩⟩
         ·rw [if_neg c18] at H
          have c18b0 := decide_eq_false c18
          clear c18; have H' := Aside0.mk H; clear H; have hnb22 := NB146_140.out; have hnc22 := NB140_146.out
          obtain ⟨hcz23_0, hcz23_1, hcz23_2, hfz23_0, hfz23_1, hfz23_2⟩ := cf3_ BK146
          go_wp2
          repeat (go_quiet (fail); try go_wp2)
          go_roundg k3
          case measure => have := HK1.out; have := HK2.out; have := HK3.out; omega
          case rel => exact ⟨(wrap64 (x5_2 + (wrap64 ((wrap64 (((rd_T52 l0_3 x46_2).f2) * x10_3)) * x10_3)))), (wrap64 (x46_2 + 1)), (by first | rfl | (simp; done) | (simp [*]; done)), (by first | rfl | (simp; done) | (simp [*]; done)), H', ⟨by have := HK1.out; have := HK2.out; have := HK3.out; omega⟩, ⟨bT_ BK140⟩, ⟨sABelo_5⟩⟩
      ·rw [if_neg c12] at H
       have c12b0 := decide_eq_false c12
       clear c12
       obtain rfl := Option.some.inj H
       go_wp2
       repeat (go_quiet (fail); try go_wp2)
       go_ret
       exact ⟨by first | rfl | (simp [errW_none, errW_some] <;> rfl) | (simp [*, errW_none, errW_some] <;> rfl), sABelo_5⟩

/-! ### impl_Cost: function 11 -/
def impl_Cost.f (k : Nat) (a0_0 : Int) (l0_1 : List Int) (l0_2 : List Int) (l0_3 : List (S52)) (l1 : List Int) : Option (Int) := (impl_ProblemOk.f k a0_0 l0_1 l0_2 l0_3).bind fun t150 => (if t150 = true then ((impl_point.f k a0_0 l0_1 l0_2 l0_3 l1).bind fun t151 => (if t151 = true then ((impl_cost.f k a0_0 l0_1 l0_2 l0_3 l1).bind fun t152 => (some t152)) else (some (-1)))) else (some (-1)))
theorem impl_Cost.mono : ∀ a0 a1 a2 a3 a4 k, LeO (impl_Cost.f k a0 a1 a2 a3 a4) (impl_Cost.f (k + 1) a0 a1 a2 a3 a4) := by
 intro a0 a1 a2 a3 a4 k
 unfold impl_Cost.f
 repeat' first
   | (with_reducible exact impl_ProblemOk.mono _ _ _ _ _)
   | (with_reducible exact impl_cost.mono _ _ _ _ _ _)
   | (with_reducible exact impl_point.mono _ _ _ _ _ _)
   | (with_reducible exact LeO.refl _)
   | (with_reducible exact LeO.none _)
   | (with_reducible refine LeO.ite ?_ ?_)
   | (with_reducible refine LeO.bind ?_ (fun _ => ?_))
   | exact impl_ProblemOk.mono _ _ _ _ _
   | exact impl_cost.mono _ _ _ _ _ _
   | exact impl_point.mono _ _ _ _ _ _
   | exact LeO.none _
   | refine LeO.ite ?_ ?_
   | refine LeO.bind ?_ (fun _ => ?_)
set_option maxHeartbeats 8000000 in
set_option maxRecDepth 100000 in
theorem impl_Cost.calls (k : Nat) (a0_0 : Int) (A0_1 : Option Addr) (c0_1 : Nat) (l0_1 : List Int) (A0_2 : Option Addr) (c0_2 : Nat) (l0_2 : List Int) (A0_3 : Option Addr) (c0_3 : Nat) (l0_3 : List (S52)) (A1 : Option Addr) (c1 : Nat) (l1 : List Int) (r : Int) (w : World) (hr0_1 : Kd.C (Kd.int .i64) w A0_1 l0_1.length l0_1) (hc0_1 : l0_1.length ≤ c0_1) (hr0_2 : Kd.C (Kd.int .i64) w A0_2 l0_2.length l0_2) (hc0_2 : l0_2.length ≤ c0_2) (hr0_3 : Kd.C k52 w A0_3 l0_3.length l0_3) (hc0_3 : l0_3.length ≤ c0_3) (hr1 : Kd.C (Kd.int .i64) w A1 l1.length l1) (hc1 : l1.length ≤ c1) (h : impl_Cost.f k a0_0 l0_1 l0_2 l0_3 l1 = some r) :
  Calls Try.prog 11 #[.agg #[.int .i64 a0_0, .slice A0_1 l0_1.length c0_1, .slice A0_2 l0_2.length c0_2, .slice A0_3 l0_3.length c0_3], .slice A1 l1.length c1] w fun e w' => e = .returned (.int .i64 r) ∧ Below w.heap.size w w' := by
 have hu30 := Try.underlying30; have HR0_1 := Aside0.mk hr0_1; have HC0_1 := Aside0.mk hc0_1; clear hr0_1 hc0_1; have HR0_2 := Aside0.mk hr0_2; have HC0_2 := Aside0.mk hc0_2; clear hr0_2 hc0_2; have HR0_3 := Aside0.mk hr0_3; have HC0_3 := Aside0.mk hc0_3; clear hr0_3 hc0_3; have HR1 := Aside0.mk hr1; have HC1 := Aside0.mk hc1; clear hr1 hc1
 have HB := Aside0.mk (Below.refl w.heap.size w)
 have H : ((impl_ProblemOk.f k a0_0 l0_1 l0_2 l0_3).bind fun t150 => (if t150 = true then ((impl_point.f k a0_0 l0_1 l0_2 l0_3 l1).bind fun t151 => (if t151 = true then ((impl_cost.f k a0_0 l0_1 l0_2 l0_3 l1).bind fun t152 => (some t152)) else (some (-1)))) else (some (-1)))) = some r := h
 clear h; replace H := Option.bind_eq_some_iff.mp H
 obtain ⟨t150, A30, H⟩ := H
 replace H : (if t150 = true then ((impl_point.f k a0_0 l0_1 l0_2 l0_3 l1).bind fun t151 => (if t151 = true then ((impl_cost.f k a0_0 l0_1 l0_2 l0_3 l1).bind fun t152 => (some t152)) else (some (-1)))) else (some (-1))) = some r := H
 have A3 := Aside0.mk A30; clear A30
 by_cases c4 : t150 = true
 ·subst c4
  replace H := ifT_ H; replace H := Option.bind_eq_some_iff.mp H
  obtain ⟨t151, A50, H⟩ := H
  replace H : (if t151 = true then ((impl_cost.f k a0_0 l0_1 l0_2 l0_3 l1).bind fun t152 => (some t152)) else (some (-1))) = some r := H
  have A5 := Aside0.mk A50; clear A50
  by_cases c6 : t151 = true
  ·subst c6
   replace H := ifT_ H; replace H := Option.bind_eq_some_iff.mp H
   obtain ⟨t152, A70, H⟩ := H
   replace H : (some t152) = some r := H
   have A7 := Aside0.mk A70; clear A70
   obtain rfl := Option.some.inj H
   go_enter Try.func11, Try.ntmps11
   go_wp2_with (first | ((with_reducible refine gate_dst (N := 2) rfl ?_); refine box_event ?hg (N := 2) ?hd (cs := #[.int .i64 a0_0, .slice A0_1 l0_1.length c0_1, .slice A0_2 l0_2.length c0_2, .slice A0_3 l0_3.length c0_3]) (t := 30) ?hr ?_; (case hd => rfl); (case hg => rfl); (case hr => first | (go_simp; done) | (go_simp; rfl)); intro gb149 hg w8 hbox hb; have BK149 := Aside0.mk (hbox); have GW149 := gE_ HB hg; have GE149 := gE_ HB hg; replace HB := bS_ HB hb; clear hb hbox hg; obtain ⟨hcz9_0, hcz9_1, hcz9_2, hcz9_3, hfz9_0, hfz9_1, hfz9_2, hfz9_3⟩ := cf4_ BK149) | ((with_reducible refine gate_callee (f := 31) rfl ?_); refine gL_ (some 6) Try.func31 #[.agg #[.int .i64 a0_0, .slice A0_1 l0_1.length c0_1, .slice A0_2 l0_2.length c0_2, .slice A0_3 l0_3.length c0_3]] ?_; (with_reducible refine (impl_ProblemOk.calls k a0_0 _ _ l0_1 _ _ l0_2 _ _ l0_3 true _ ?side1 ?side2 ?side3 ?side4 ?side5 ?side6 A3.out).mono ?_); (case side1 => exact cB_ HR0_1 HB); (case side2 => exact HC0_1.out); (case side3 => exact cB_ HR0_2 HB); (case side4 => exact HC0_2.out); (case side5 => exact cB_ HR0_3 HB); (case side6 => exact HC0_3.out); rintro e w10 ⟨rfl, hb⟩; refine ⟨_, rfl, ?_⟩; replace BK149 := bB_ BK149 hb; replace HB := bS_ HB hb; (try clear hb); obtain ⟨hcz11_0, hcz11_1, hcz11_2, hcz11_3, hfz11_0, hfz11_1, hfz11_2, hfz11_3⟩ := cf4_ BK149) | (go_at_call 32; (with_reducible refine (impl_point.calls k a0_0 _ _ l0_1 _ _ l0_2 _ _ l0_3 _ _ l1 true _ ?side1 ?side2 ?side3 ?side4 ?side5 ?side6 ?side7 ?side8 A5.out).mono ?_); (case side1 => exact cB_ HR0_1 HB); (case side2 => exact HC0_1.out); (case side3 => exact cB_ HR0_2 HB); (case side4 => exact HC0_2.out); (case side5 => exact cB_ HR0_3 HB); (case side6 => exact HC0_3.out); (case side7 => exact cB_ HR1 HB); (case side8 => exact HC1.out); rintro e w12 ⟨rfl, hb⟩; replace BK149 := bB_ BK149 hb; replace HB := bS_ HB hb; (try clear hb); obtain ⟨hcz13_0, hcz13_1, hcz13_2, hcz13_3, hfz13_0, hfz13_1, hfz13_2, hfz13_3⟩ := cf4_ BK149) | ((with_reducible refine gate_callee (f := 33) rfl ?_); refine gL_ (some 16) Try.func33 #[.agg #[.int .i64 a0_0, .slice A0_1 l0_1.length c0_1, .slice A0_2 l0_2.length c0_2, .slice A0_3 l0_3.length c0_3], .slice A1 l1.length c1] ?_; (with_reducible refine (impl_cost.calls k a0_0 _ _ l0_1 _ _ l0_2 _ _ l0_3 _ _ l1 t152 _ ?side1 ?side2 ?side3 ?side4 ?side5 ?side6 ?side7 ?side8 A7.out).mono ?_); (case side1 => exact cB_ HR0_1 HB); (case side2 => exact HC0_1.out); (case side3 => exact cB_ HR0_2 HB); (case side4 => exact HC0_2.out); (case side5 => exact cB_ HR0_3 HB); (case side6 => exact HC0_3.out); (case side7 => exact cB_ HR1 HB); (case side8 => exact HC1.out); rintro e w14 ⟨rfl, hb⟩; refine ⟨_, rfl, ?_⟩; replace BK149 := bB_ BK149 hb; replace HB := bS_ HB hb; (try clear hb)))
   go_ret
   exact ⟨by first | rfl | (simp [errW_none, errW_some] <;> rfl) | (simp [*, errW_none, errW_some] <;> rfl), sABelo_5⟩
  ·replace c6 := Bool.eq_false_iff.mpr c6
   subst c6
   replace H := ifF_ H
   obtain rfl := Option.some.inj H
   go_enter Try.func11, Try.ntmps11
   go_wp2_with (first | ((with_reducible refine gate_dst (N := 2) rfl ?_); refine box_event ?hg (N := 2) ?hd (cs := #[.int .i64 a0_0, .slice A0_1 l0_1.length c0_1, .slice A0_2 l0_2.length c0_2, .slice A0_3 l0_3.length c0_3]) (t := 30) ?hr ?_; (case hd => rfl); (case hg => rfl); (case hr => first | (go_simp; done) | (go_simp; rfl)); intro gb149 hg w15 hbox hb; have BK149 := Aside0.mk (hbox); have GW149 := gE_ HB hg; have GE149 := gE_ HB hg; replace HB := bS_ HB hb; clear hb hbox hg; obtain ⟨hcz16_0, hcz16_1, hcz16_2, hcz16_3, hfz16_0, hfz16_1, hfz16_2, hfz16_3⟩ := cf4_ BK149) | ((with_reducible refine gate_callee (f := 31) rfl ?_); refine gL_ (some 6) Try.func31 #[.agg #[.int .i64 a0_0, .slice A0_1 l0_1.length c0_1, .slice A0_2 l0_2.length c0_2, .slice A0_3 l0_3.length c0_3]] ?_; (with_reducible refine (impl_ProblemOk.calls k a0_0 _ _ l0_1 _ _ l0_2 _ _ l0_3 true _ ?side1 ?side2 ?side3 ?side4 ?side5 ?side6 A3.out).mono ?_); (case side1 => exact cB_ HR0_1 HB); (case side2 => exact HC0_1.out); (case side3 => exact cB_ HR0_2 HB); (case side4 => exact HC0_2.out); (case side5 => exact cB_ HR0_3 HB); (case side6 => exact HC0_3.out); rintro e w17 ⟨rfl, hb⟩; refine ⟨_, rfl, ?_⟩; replace BK149 := bB_ BK149 hb; replace HB := bS_ HB hb; (try clear hb); obtain ⟨hcz18_0, hcz18_1, hcz18_2, hcz18_3, hfz18_0, hfz18_1, hfz18_2, hfz18_3⟩ := cf4_ BK149) | (go_at_call 32; (with_reducible refine (impl_point.calls k a0_0 _ _ l0_1 _ _ l0_2 _ _ l0_3 _ _ l1 false _ ?side1 ?side2 ?side3 ?side4 ?side5 ?side6 ?side7 ?side8 A5.out).mono ?_); (case side1 => exact cB_ HR0_1 HB); (case side2 => exact HC0_1.out); (case side3 => exact cB_ HR0_2 HB); (case side4 => exact HC0_2.out); (case side5 => exact cB_ HR0_3 HB); (case side6 => exact HC0_3.out); (case side7 => exact cB_ HR1 HB); (case side8 => exact HC1.out); rintro e w19 ⟨rfl, hb⟩; replace BK149 := bB_ BK149 hb; replace HB := bS_ HB hb; (try clear hb)))
   go_ret
   exact ⟨by first | rfl | (simp [errW_none, errW_some] <;> rfl) | (simp [*, errW_none, errW_some] <;> rfl), sABelo_5⟩
 ·replace c4 := Bool.eq_false_iff.mpr c4
  subst c4
  replace H := ifF_ H
  obtain rfl := Option.some.inj H
  go_enter Try.func11, Try.ntmps11
  go_wp2_with (first | ((with_reducible refine gate_dst (N := 2) rfl ?_); refine box_event ?hg (N := 2) ?hd (cs := #[.int .i64 a0_0, .slice A0_1 l0_1.length c0_1, .slice A0_2 l0_2.length c0_2, .slice A0_3 l0_3.length c0_3]) (t := 30) ?hr ?_; (case hd => rfl); (case hg => rfl); (case hr => first | (go_simp; done) | (go_simp; rfl)); intro gb149 hg w20 hbox hb; have BK149 := Aside0.mk (hbox); have GW149 := gE_ HB hg; have GE149 := gE_ HB hg; replace HB := bS_ HB hb; clear hb hbox hg; obtain ⟨hcz21_0, hcz21_1, hcz21_2, hcz21_3, hfz21_0, hfz21_1, hfz21_2, hfz21_3⟩ := cf4_ BK149) | ((with_reducible refine gate_callee (f := 31) rfl ?_); refine gL_ (some 6) Try.func31 #[.agg #[.int .i64 a0_0, .slice A0_1 l0_1.length c0_1, .slice A0_2 l0_2.length c0_2, .slice A0_3 l0_3.length c0_3]] ?_; (with_reducible refine (impl_ProblemOk.calls k a0_0 _ _ l0_1 _ _ l0_2 _ _ l0_3 false _ ?side1 ?side2 ?side3 ?side4 ?side5 ?side6 A3.out).mono ?_); (case side1 => exact cB_ HR0_1 HB); (case side2 => exact HC0_1.out); (case side3 => exact cB_ HR0_2 HB); (case side4 => exact HC0_2.out); (case side5 => exact cB_ HR0_3 HB); (case side6 => exact HC0_3.out); rintro e w22 ⟨rfl, hb⟩; refine ⟨_, rfl, ?_⟩; replace BK149 := bB_ BK149 hb; replace HB := bS_ HB hb; (try clear hb)))
  go_ret
  exact ⟨by first | rfl | (simp [errW_none, errW_some] <;> rfl) | (simp [*, errW_none, errW_some] <;> rfl), sABelo_5⟩

end Go.Proofs.Ytcjhbmjimjbphaa.QFnDescends
