-- Written by a program of this session out of the printer's texts and contracts of its own.
import Derived.Test.YtjoghfehmhapbaaSq
import Derived.Test.YtjoghfehmhapbaaQFnExactStuckx0
namespace Go.Proofs.Ytjoghfehmhapbaa.QFnExactStuck
open Go.RowKit Go.Proofs.YtjoghfehmhapbaaW.PrintWords Go.Proofs.YtjoghfehmhapbaaW.PrintLast Go.Proofs.YtjoghfehmhapbaaW.PrintMore Go.Proofs.Ytjoghfehmhapbaa.Sq
attribute [local go_sem] max2_int min2_int max_two min_two max_three min_three max_four min_four   -- for this text's walks alone
set_option linter.unusedVariables false
set_option linter.unusedSimpArgs false
theorem sABelo_4 {b : Nat} {w W : World} (h : Below b w W := by repeat (first | (with_reducible first | exact Aside0.out (by assumption) | apply below_alloc | apply pw_below_drewN | apply below_drew1 | refine below_set ?_ (Aside0.out (by assumption))) | exact Aside0.out (by assumption))) : Below b w W := h

/-! ### spec_l24Free: function 74 -/
def spec_l24Free.l0 : Nat → List Int → Int → List (S39) → List Int → Int → List (S43) → Option (Bool)
 | 0, _, _, _, _, _, _ => none
 | k + 1, x5, x6, x129000, x129001, x129002, x129003 => if x6 < (x5.length : Int) then (if 0 ≤ x6 then (if 0 ≤ (wrap64 ((rd x5 x6) - 1)) then (if (wrap64 ((rd x5 x6) - 1)) < (x129003.length : Int) then (if ((rd_T43 x129003 (wrap64 ((rd x5 x6) - 1))).f0) = 2 then (spec_l24Free.l0 k x5 (wrap64 (x6 + 1)) x129000 x129001 x129002 x129003) else (some false)) else (none)) else (none)) else (none)) else (some true)
def spec_l24Free.f (k : Nat) (l0_0 : List (S39)) (l0_1 : List Int) (a0_2 : Int) (l0_3 : List (S43)) (a1 : Int) : Option (Bool) := if 0 ≤ a1 then (if a1 < (l0_0.length : Int) then (spec_l24Free.l0 k ((rd_T39 l0_0 a1).f0) 0 l0_0 l0_1 a0_2 l0_3) else (none)) else (none)
theorem spec_l24Free.mono_l : ∀ k, (∀ y0 y1 y2 y3 y4 y5, LeO (spec_l24Free.l0 k y0 y1 y2 y3 y4 y5) (spec_l24Free.l0 (k + 1) y0 y1 y2 y3 y4 y5))
 | 0 => fun _ _ _ _ _ _ r h => by simp [spec_l24Free.l0] at h
 | k + 1 => by
  have ih0 := spec_l24Free.mono_l k
  ·intro y0 y1 y2 y3 y4 y5
   unfold spec_l24Free.l0
   repeat' first
   | (with_reducible exact ih0 _ _ _ _ _ _)
   | (with_reducible exact LeO.refl _)
   | (with_reducible exact LeO.none _)
   | (with_reducible refine LeO.ite ?_ ?_)
   | (with_reducible refine LeO.bind ?_ (fun _ => ?_))
   | exact ih0 _ _ _ _ _ _
   | exact LeO.none _
   | refine LeO.ite ?_ ?_
   | refine LeO.bind ?_ (fun _ => ?_)
theorem spec_l24Free.mono : ∀ a0 a1 a2 a3 a4 k, LeO (spec_l24Free.f k a0 a1 a2 a3 a4) (spec_l24Free.f (k + 1) a0 a1 a2 a3 a4) := by
 intro a0 a1 a2 a3 a4 k
 have ih0 := spec_l24Free.mono_l k
 unfold spec_l24Free.f
 repeat' first
   | (with_reducible exact ih0 _ _ _ _ _ _)
   | (with_reducible exact LeO.refl _)
   | (with_reducible exact LeO.none _)
   | (with_reducible refine LeO.ite ?_ ?_)
   | (with_reducible refine LeO.bind ?_ (fun _ => ?_))
   | exact ih0 _ _ _ _ _ _
   | exact LeO.none _
   | refine LeO.ite ?_ ?_
   | refine LeO.bind ?_ (fun _ => ?_)
set_option maxHeartbeats 8000000 in
set_option maxRecDepth 100000 in
theorem spec_l24Free.calls (k : Nat) (A0_0 : Option Addr) (c0_0 : Nat) (l0_0 : List (S39)) (A0_1 : Option Addr) (c0_1 : Nat) (l0_1 : List Int) (a0_2 : Int) (A0_3 : Option Addr) (c0_3 : Nat) (l0_3 : List (S43)) (a1 : Int) (r : Bool) (w : World) (hr0_0 : Kd.C k39 w A0_0 l0_0.length l0_0) (hc0_0 : l0_0.length ≤ c0_0) (hr0_1 : Kd.C (Kd.int .i64) w A0_1 l0_1.length l0_1) (hc0_1 : l0_1.length ≤ c0_1) (hr0_3 : Kd.C k43 w A0_3 l0_3.length l0_3) (hc0_3 : l0_3.length ≤ c0_3) (h : spec_l24Free.f k l0_0 l0_1 a0_2 l0_3 a1 = some r) :
  Calls Try.prog 74 #[.agg #[.slice A0_0 l0_0.length c0_0, .slice A0_1 l0_1.length c0_1, .int .i64 a0_2, .slice A0_3 l0_3.length c0_3], .int .i64 a1] w fun e w' => e = .returned (.bool r) ∧ Below w.heap.size w w' := by
 have hu31 := Try.underlying31; have HR0_0 := Aside0.mk hr0_0; have HC0_0 := Aside0.mk hc0_0; clear hr0_0 hc0_0; have HR0_1 := Aside0.mk hr0_1; have HC0_1 := Aside0.mk hc0_1; clear hr0_1 hc0_1; have HR0_3 := Aside0.mk hr0_3; have HC0_3 := Aside0.mk hc0_3; clear hr0_3 hc0_3
 have HB := Aside0.mk (Below.refl w.heap.size w)
 have H : (if 0 ≤ a1 then (if a1 < (l0_0.length : Int) then (spec_l24Free.l0 k ((rd_T39 l0_0 a1).f0) 0 l0_0 l0_1 a0_2 l0_3) else (none)) else (none)) = some r := h
 clear h
 obtain ⟨c3, H⟩ := ifS_ H
 have c3b0 : decide (0 ≤ a1) = true := decide_eq_true c3
 clear c3
 obtain ⟨c4, H⟩ := ifS_ H
 have c4b0 : decide (a1 < (l0_0.length : Int)) = true := decide_eq_true c4
 clear c4; have H' := Aside0.mk H; clear H
 go_enter Try.func74, Try.ntmps74
 have START_ := True.intro
 repeat ((first | go_quiet (fail) | clear START_); try go_wp2_with (first | ((with_reducible refine gate_dst (N := 2) rfl ?_); refine box_event ?hg (N := 2) ?hd (cs := #[.slice A0_0 l0_0.length c0_0, .slice A0_1 l0_1.length c0_1, .int .i64 a0_2, .slice A0_3 l0_3.length c0_3]) (t := 31) ?hr ?_; (case hd => rfl); (case hg => rfl); (case hr => first | (go_simp; done) | (go_simp; rfl)); intro gb128 hg w5 hbox hb; have BK128 := Aside0.mk (hbox); have GW128 := gE_ HB hg; have GE128 := gE_ HB hg; replace HB := bS_ HB hb; clear hb hbox hg; obtain ⟨hcz6_0, hcz6_1, hcz6_2, hcz6_3, hfz6_0, hfz6_1, hfz6_2, hfz6_3⟩ := cf4_ BK128; have p129 : 0 ≤ (a1 : Int) := dA_; have q129 : a1 < (l0_0.length : Int) := dA_; obtain ⟨ad129, A129_0, c129_0, e129, hx129_0, hx129_1, hx129_2, hx129_3, hl129_0, hi129_0⟩ := at_T39 HR0_0.out a1 p129 q129; cases e129; replace hx129_0 := hX_ HB hx129_0; replace hx129_1 := hX_ HB hx129_1; replace hx129_2 := hX_ HB hx129_2; replace hx129_3 := hX_ HB hx129_3; have HR129_0 := Aside0.mk hi129_0; have HC129_0 := Aside0.mk hl129_0; clear hi129_0 hl129_0; replace p129 := eq_true p129; replace q129 := eq_true q129)))
 go_loopg [6] k (fun kq v6 w' => ∃ (x6_1 : Int), v6 = .int .i64 x6_1 ∧ Aside0 (spec_l24Free.l0 kq ((rd_T39 l0_0 a1).f0) x6_1 l0_0 l0_1 a0_2 l0_3 = some r) ∧ Aside0 (kq ≤ k) ∧ Aside0 (w'.heap[gb128]? = some (.cells #[(.slice (some ad129) l0_0.length c0_0), (.slice A0_1 l0_1.length c0_1), .int .i64 a0_2, (.slice A0_3 l0_3.length c0_3)] 31 (0, 0))) ∧ Aside0 (Below w.heap.size w w'))
 case atStart => exact ⟨(0), (by first | rfl | (simp; done) | (simp [*]; done)), H', ⟨Nat.le_refl _⟩, ⟨bT_ BK128⟩, ⟨sABelo_4⟩⟩
 case round =>
  clear H'; (try clear c3); (try clear c3b0); (try clear c4); (try clear c4b0); (try clear hcz6_0); (try clear hcz6_1); (try clear hcz6_2); (try clear hcz6_3); (try clear hfz6_0); (try clear hfz6_1); (try clear hfz6_2); (try clear hfz6_3); (try clear hx129_0); (try clear hx129_1); (try clear hx129_2); (try clear hx129_3); (try clear p129); (try clear q129)
  obtain ⟨x6_1, rfl, HA, HK1, BK128, HB⟩ := hrel
  cases gk with
  | zero => exact absurd HA.out (by simp [spec_l24Free.l0])
  | succ k1 =>
   have H := HA.out; clear HA
   simp only [spec_l24Free.l0] at H
   by_cases c7 : x6_1 < (((rd_T39 l0_0 a1).f0).length : Int)
   ·rw [if_pos c7] at H
    have c7b0 := decide_eq_true c7
    clear c7
    obtain ⟨c8, H⟩ := ifS_ H
    have c8b0 : decide (0 ≤ x6_1) = true := decide_eq_true c8
    clear c8
    obtain ⟨ji9, hji9⟩ : ∃ j_ : Int, (wrap64 ((rd ((rd_T39 l0_0 a1).f0) x6_1) - 1)) = j_ := ⟨_, rfl⟩
    replace H : (if 0 ≤ (ji9) then (if (ji9) < (l0_3.length : Int) then (if ((rd_T43 l0_3 (ji9)).f0) = 2 then (spec_l24Free.l0 k1 ((rd_T39 l0_0 a1).f0) (wrap64 (x6_1 + 1)) l0_0 l0_1 a0_2 l0_3) else (some false)) else (none)) else (none)) = some r := by first | (rw [hji9] at H; exact H) | (simp only [hji9] at H ⊢; exact H)
    have hji9w : (IntKind.i64.wrap ((rd ((rd_T39 l0_0 a1).f0) x6_1) - 1)) = ji9 := (i64_w _).trans hji9
    obtain ⟨c10, H⟩ := ifS_ H
    have c10b0 : decide (0 ≤ (ji9)) = true := decide_eq_true c10
    clear c10
    obtain ⟨c11, H⟩ := ifS_ H
    have c11b0 : decide ((ji9) < (l0_3.length : Int)) = true := decide_eq_true c11
    clear c11
    by_cases c12 : ((rd_T43 l0_3 (ji9)).f0) = 2
    ·rw [if_pos c12] at H
     have c12b0 := beq_iff_eq.mpr c12
     have c12b1 := bne_eq_false_iff_eq.mpr c12
     clear c12; have H' := Aside0.mk H; clear H
     obtain ⟨hcz13_0, hcz13_1, hcz13_2, hcz13_3, hfz13_0, hfz13_1, hfz13_2, hfz13_3⟩ := cf4_ BK128
     have p130 : 0 ≤ (x6_1 : Int) := dA_
     have q130 : x6_1 < (((rd_T39 l0_0 a1).f0).length : Int) := dA_
     obtain ⟨ad130, e130, hx130_0⟩ := Kd.at_int HR129_0.out x6_1 p130 q130
     cases e130
     replace hx130_0 := hX_ HB hx130_0
     replace p130 := eq_true p130; replace q130 := eq_true q130
     have p131 : 0 ≤ ((ji9) : Int) := dA_
     have q131 : (ji9) < (l0_3.length : Int) := dA_
     obtain ⟨ad131, e131, hx131_0, hx131_1⟩ := at_T43 HR0_3.out (ji9) p131 q131
     cases e131
     replace hx131_0 := hX_ HB hx131_0
     replace hx131_1 := hX_ HB hx131_1
     replace p131 := eq_true p131; replace q131 := eq_true q131
     go_wp2
     repeat (go_quiet (fail); try go_wp2)
     go_roundg k1
     case measure => have := HK1.out; omega
     case rel => exact ⟨(wrap64 (x6_1 + 1)), (by first | rfl | (simp; done) | (simp [*]; done)), H', ⟨by have := HK1.out; omega⟩, ⟨bT_ BK128⟩, ⟨sABelo_4⟩⟩
    ·rw [if_neg c12] at H
     have c12b0 := beq_eq_false_iff_ne.mpr c12
     have c12b1 := bne_iff_ne.mpr c12
     obtain rfl := Option.some.inj H
     obtain ⟨hcz14_0, hcz14_1, hcz14_2, hcz14_3, hfz14_0, hfz14_1, hfz14_2, hfz14_3⟩ := cf4_ BK128
     have p130 : 0 ≤ (x6_1 : Int) := dA_
     have q130 : x6_1 < (((rd_T39 l0_0 a1).f0).length : Int) := dA_
     obtain ⟨ad130, e130, hx130_0⟩ := Kd.at_int HR129_0.out x6_1 p130 q130
     cases e130
     replace hx130_0 := hX_ HB hx130_0
     replace p130 := eq_true p130; replace q130 := eq_true q130
     have p131 : 0 ≤ ((ji9) : Int) := dA_
     have q131 : (ji9) < (l0_3.length : Int) := dA_
     obtain ⟨ad131, e131, hx131_0, hx131_1⟩ := at_T43 HR0_3.out (ji9) p131 q131
     cases e131
     replace hx131_0 := hX_ HB hx131_0
     replace hx131_1 := hX_ HB hx131_1
     replace p131 := eq_true p131; replace q131 := eq_true q131
     go_wp2
     repeat (go_quiet (fail); try go_wp2)
     go_ret
     exact ⟨by first | rfl | (simp [errW_none, errW_some] <;> rfl) | (simp only [← hji9]; first | rfl | (simp [errW_none, errW_some] <;> rfl)) | (simp [*, errW_none, errW_some] <;> rfl), sABelo_4⟩
   ·rw [if_neg c7] at H
    have c7b0 := decide_eq_false c7
    clear c7
    obtain rfl := Option.some.inj H
    go_wp2
    repeat (go_quiet (fail); try go_wp2)
    go_ret
    exact ⟨by first | rfl | (simp [errW_none, errW_some] <;> rfl) | (simp [*, errW_none, errW_some] <;> rfl), sABelo_4⟩

/-! ### spec_l24Running: function 75 -/
def spec_l24Running.l0 : Nat → Int → Int → Int → List (S39) → List Int → Int → List (S43) → Option (Int)
 | 0, _, _, _, _, _, _, _ => none
 | k + 1, x1, x5, x6, x133000, x133001, x133002, x133003 => if x6 < (x133003.length : Int) then (if 0 ≤ x6 then (if ((rd_T43 x133003 x6).f0) = 1 then (if x6 < (x133000.length : Int) then (if ((rd_T39 x133000 x6).f1) = x1 then (spec_l24Running.l0 k x1 (wrap64 (x5 + 1)) (wrap64 (x6 + 1)) x133000 x133001 x133002 x133003) else (spec_l24Running.l0 k x1 x5 (wrap64 (x6 + 1)) x133000 x133001 x133002 x133003)) else (none)) else (spec_l24Running.l0 k x1 x5 (wrap64 (x6 + 1)) x133000 x133001 x133002 x133003)) else (none)) else (some x5)
def spec_l24Running.f (k : Nat) (l0_0 : List (S39)) (l0_1 : List Int) (a0_2 : Int) (l0_3 : List (S43)) (a1 : Int) : Option (Int) := spec_l24Running.l0 k a1 0 0 l0_0 l0_1 a0_2 l0_3
theorem spec_l24Running.mono_l : ∀ k, (∀ y0 y1 y2 y3 y4 y5 y6, LeO (spec_l24Running.l0 k y0 y1 y2 y3 y4 y5 y6) (spec_l24Running.l0 (k + 1) y0 y1 y2 y3 y4 y5 y6))
 | 0 => fun _ _ _ _ _ _ _ r h => by simp [spec_l24Running.l0] at h
 | k + 1 => by
  have ih0 := spec_l24Running.mono_l k
  ·intro y0 y1 y2 y3 y4 y5 y6
   unfold spec_l24Running.l0
   repeat' first
   | (with_reducible exact ih0 _ _ _ _ _ _ _)
   | (with_reducible exact LeO.refl _)
   | (with_reducible exact LeO.none _)
   | (with_reducible refine LeO.ite ?_ ?_)
   | (with_reducible refine LeO.bind ?_ (fun _ => ?_))
   | exact ih0 _ _ _ _ _ _ _
   | exact LeO.none _
   | refine LeO.ite ?_ ?_
   | refine LeO.bind ?_ (fun _ => ?_)
theorem spec_l24Running.mono : ∀ a0 a1 a2 a3 a4 k, LeO (spec_l24Running.f k a0 a1 a2 a3 a4) (spec_l24Running.f (k + 1) a0 a1 a2 a3 a4) := by
 intro a0 a1 a2 a3 a4 k
 have ih0 := spec_l24Running.mono_l k
 unfold spec_l24Running.f
 repeat' first
   | (with_reducible exact ih0 _ _ _ _ _ _ _)
   | (with_reducible exact LeO.refl _)
   | (with_reducible exact LeO.none _)
   | (with_reducible refine LeO.ite ?_ ?_)
   | (with_reducible refine LeO.bind ?_ (fun _ => ?_))
   | exact ih0 _ _ _ _ _ _ _
   | exact LeO.none _
   | refine LeO.ite ?_ ?_
   | refine LeO.bind ?_ (fun _ => ?_)
set_option maxHeartbeats 8000000 in
set_option maxRecDepth 100000 in
theorem spec_l24Running.calls (k : Nat) (A0_0 : Option Addr) (c0_0 : Nat) (l0_0 : List (S39)) (A0_1 : Option Addr) (c0_1 : Nat) (l0_1 : List Int) (a0_2 : Int) (A0_3 : Option Addr) (c0_3 : Nat) (l0_3 : List (S43)) (a1 : Int) (r : Int) (w : World) (hr0_0 : Kd.C k39 w A0_0 l0_0.length l0_0) (hc0_0 : l0_0.length ≤ c0_0) (hr0_1 : Kd.C (Kd.int .i64) w A0_1 l0_1.length l0_1) (hc0_1 : l0_1.length ≤ c0_1) (hr0_3 : Kd.C k43 w A0_3 l0_3.length l0_3) (hc0_3 : l0_3.length ≤ c0_3) (h : spec_l24Running.f k l0_0 l0_1 a0_2 l0_3 a1 = some r) :
  Calls Try.prog 75 #[.agg #[.slice A0_0 l0_0.length c0_0, .slice A0_1 l0_1.length c0_1, .int .i64 a0_2, .slice A0_3 l0_3.length c0_3], .int .i64 a1] w fun e w' => e = .returned (.int .i64 r) ∧ Below w.heap.size w w' := by
 have hu31 := Try.underlying31; have HR0_0 := Aside0.mk hr0_0; have HC0_0 := Aside0.mk hc0_0; clear hr0_0 hc0_0; have HR0_1 := Aside0.mk hr0_1; have HC0_1 := Aside0.mk hc0_1; clear hr0_1 hc0_1; have HR0_3 := Aside0.mk hr0_3; have HC0_3 := Aside0.mk hc0_3; clear hr0_3 hc0_3
 have HB := Aside0.mk (Below.refl w.heap.size w)
 have H : (spec_l24Running.l0 k a1 0 0 l0_0 l0_1 a0_2 l0_3) = some r := h
 clear h; have H' := Aside0.mk H; clear H
 go_enter Try.func75, Try.ntmps75
 go_wp2_with (first | ((with_reducible refine gate_dst (N := 2) rfl ?_); refine box_event ?hg (N := 2) ?hd (cs := #[.slice A0_0 l0_0.length c0_0, .slice A0_1 l0_1.length c0_1, .int .i64 a0_2, .slice A0_3 l0_3.length c0_3]) (t := 31) ?hr ?_; (case hd => rfl); (case hg => rfl); (case hr => first | (go_simp; done) | (go_simp; rfl)); intro gb132 hg w3 hbox hb; have BK132 := Aside0.mk (hbox); have GW132 := gE_ HB hg; have GE132 := gE_ HB hg; replace HB := bS_ HB hb; clear hb hbox hg))
 go_loopg [5, 6] k (fun kq v5 v6 w' => ∃ (x5_1 : Int) (x6_1 : Int), v5 = .int .i64 x5_1 ∧ v6 = .int .i64 x6_1 ∧ Aside0 (spec_l24Running.l0 kq a1 x5_1 x6_1 l0_0 l0_1 a0_2 l0_3 = some r) ∧ Aside0 (kq ≤ k) ∧ Aside0 (w'.heap[gb132]? = some (.cells #[(.slice A0_0 l0_0.length c0_0), (.slice A0_1 l0_1.length c0_1), .int .i64 a0_2, (.slice A0_3 l0_3.length c0_3)] 31 (0, 0))) ∧ Aside0 (Below w.heap.size w w'))
 case atStart => exact ⟨(0), (0), (by first | rfl | (simp; done) | (simp [*]; done)), (by first | rfl | (simp; done) | (simp [*]; done)), H', ⟨Nat.le_refl _⟩, ⟨bT_ BK132⟩, ⟨sABelo_4⟩⟩
 case round =>
  clear H'
  obtain ⟨x5_1, x6_1, rfl, rfl, HA, HK1, BK132, HB⟩ := hrel
  cases gk with
  | zero => exact absurd HA.out (by simp [spec_l24Running.l0])
  | succ k1 =>
   have H := HA.out; clear HA
   simp only [spec_l24Running.l0] at H
   by_cases c4 : x6_1 < (l0_3.length : Int)
   ·rw [if_pos c4] at H
    have c4b0 := decide_eq_true c4
    clear c4
    obtain ⟨c5, H⟩ := ifS_ H
    have c5b0 : decide (0 ≤ x6_1) = true := decide_eq_true c5
    clear c5
    by_cases c6 : ((rd_T43 l0_3 x6_1).f0) = 1
    ·rw [if_pos c6] at H
     have c6b0 := beq_iff_eq.mpr c6
     have c6b1 := bne_eq_false_iff_eq.mpr c6
     clear c6
     obtain ⟨c7, H⟩ := ifS_ H
     have c7b0 : decide (x6_1 < (l0_0.length : Int)) = true := decide_eq_true c7
     clear c7
     by_cases c8 : ((rd_T39 l0_0 x6_1).f1) = a1
     ·rw [if_pos c8] at H
      have c8b0 := beq_iff_eq.mpr c8
      have c8b1 := bne_eq_false_iff_eq.mpr c8
      clear c8; have H' := Aside0.mk H; clear H
      obtain ⟨hcz9_0, hcz9_1, hcz9_2, hcz9_3, hfz9_0, hfz9_1, hfz9_2, hfz9_3⟩ := cf4_ BK132
      have p133 : 0 ≤ (x6_1 : Int) := dA_
      have q133 : x6_1 < (l0_3.length : Int) := dA_
      obtain ⟨ad133, e133, hx133_0, hx133_1⟩ := at_T43 HR0_3.out x6_1 p133 q133
      cases e133
      replace hx133_0 := hX_ HB hx133_0
      replace hx133_1 := hX_ HB hx133_1
      replace p133 := eq_true p133; replace q133 := eq_true q133
      have p134 : 0 ≤ (x6_1 : Int) := dA_
      have q134 : x6_1 < (l0_0.length : Int) := dA_
      obtain ⟨ad134, A134_0, c134_0, e134, hx134_0, hx134_1, hx134_2, hx134_3, hl134_0, hi134_0⟩ := at_T39 HR0_0.out x6_1 p134 q134
      cases e134
      replace hx134_0 := hX_ HB hx134_0
      replace hx134_1 := hX_ HB hx134_1
      replace hx134_2 := hX_ HB hx134_2
      replace hx134_3 := hX_ HB hx134_3
      have HR134_0 := Aside0.mk hi134_0; have HC134_0 := Aside0.mk hl134_0; clear hi134_0 hl134_0; replace p134 := eq_true p134; replace q134 := eq_true q134
      go_wp2
      go_roundg k1
      case measure => have := HK1.out; omega
      case rel => exact ⟨(wrap64 (x5_1 + 1)), (wrap64 (x6_1 + 1)), (by first | rfl | (simp; done) | (simp [*]; done)), (by first | rfl | (simp; done) | (simp [*]; done)), H', ⟨by have := HK1.out; omega⟩, ⟨bT_ BK132⟩, ⟨sABelo_4⟩⟩
     ·rw [if_neg c8] at H
      have c8b0 := beq_eq_false_iff_ne.mpr c8
      have c8b1 := bne_iff_ne.mpr c8
      have H' := Aside0.mk H; clear H
      obtain ⟨hcz10_0, hcz10_1, hcz10_2, hcz10_3, hfz10_0, hfz10_1, hfz10_2, hfz10_3⟩ := cf4_ BK132
      have p133 : 0 ≤ (x6_1 : Int) := dA_
      have q133 : x6_1 < (l0_3.length : Int) := dA_
      obtain ⟨ad133, e133, hx133_0, hx133_1⟩ := at_T43 HR0_3.out x6_1 p133 q133
      cases e133
      replace hx133_0 := hX_ HB hx133_0
      replace hx133_1 := hX_ HB hx133_1
      replace p133 := eq_true p133; replace q133 := eq_true q133
      have p134 : 0 ≤ (x6_1 : Int) := dA_
      have q134 : x6_1 < (l0_0.length : Int) := dA_
      obtain ⟨ad134, A134_0, c134_0, e134, hx134_0, hx134_1, hx134_2, hx134_3, hl134_0, hi134_0⟩ := at_T39 HR0_0.out x6_1 p134 q134
      cases e134
      replace hx134_0 := hX_ HB hx134_0
      replace hx134_1 := hX_ HB hx134_1
      replace hx134_2 := hX_ HB hx134_2
      replace hx134_3 := hX_ HB hx134_3
      have HR134_0 := Aside0.mk hi134_0; have HC134_0 := Aside0.mk hl134_0; clear hi134_0 hl134_0; replace p134 := eq_true p134; replace q134 := eq_true q134
      go_wp2
      go_roundg k1
      case measure => have := HK1.out; omega
      case rel => exact ⟨(x5_1), (wrap64 (x6_1 + 1)), (by first | rfl | (simp; done) | (simp [*]; done)), (by first | rfl | (simp; done) | (simp [*]; done)), H', ⟨by have := HK1.out; omega⟩, ⟨bT_ BK132⟩, ⟨sABelo_4⟩⟩
    ·rw [if_neg c6] at H
     have c6b0 := beq_eq_false_iff_ne.mpr c6
     have c6b1 := bne_iff_ne.mpr c6
     have H' := Aside0.mk H; clear H
     obtain ⟨hcz11_0, hcz11_1, hcz11_2, hcz11_3, hfz11_0, hfz11_1, hfz11_2, hfz11_3⟩ := cf4_ BK132
     have p133 : 0 ≤ (x6_1 : Int) := dA_
     have q133 : x6_1 < (l0_3.length : Int) := dA_
     obtain ⟨ad133, e133, hx133_0, hx133_1⟩ := at_T43 HR0_3.out x6_1 p133 q133
     cases e133
     replace hx133_0 := hX_ HB hx133_0
     replace hx133_1 := hX_ HB hx133_1
     replace p133 := eq_true p133; replace q133 := eq_true q133
     go_wp2
     go_roundg k1
     case measure => have := HK1.out; omega
     case rel => exact ⟨(x5_1), (wrap64 (x6_1 + 1)), (by first | rfl | (simp; done) | (simp [*]; done)), (by first | rfl | (simp; done) | (simp [*]; done)), H', ⟨by have := HK1.out; omega⟩, ⟨bT_ BK132⟩, ⟨sABelo_4⟩⟩
   ·rw [if_neg c4] at H
    have c4b0 := decide_eq_false c4
    clear c4
    obtain rfl := Option.some.inj H
    obtain ⟨hcz12_0, hcz12_1, hcz12_2, hcz12_3, hfz12_0, hfz12_1, hfz12_2, hfz12_3⟩ := cf4_ BK132
    go_wp2
    go_ret
    exact ⟨by first | rfl | (simp [errW_none, errW_some] <;> rfl) | (simp [*, errW_none, errW_some] <;> rfl), sABelo_4⟩

end Go.Proofs.Ytjoghfehmhapbaa.QFnExactStuck
