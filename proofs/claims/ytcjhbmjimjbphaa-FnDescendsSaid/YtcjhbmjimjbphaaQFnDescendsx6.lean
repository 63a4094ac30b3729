-- Written by a program of this session out of the printer's texts and contracts of its own.
import Derived.Test.YtcjhbmjimjbphaaSq
import Derived.Test.YtcjhbmjimjbphaaQFnDescendsx0
import Derived.Test.YtcjhbmjimjbphaaQFnDescendsx4
import Derived.Test.YtcjhbmjimjbphaaQFnDescendsx5
namespace Go.Proofs.Ytcjhbmjimjbphaa.QFnDescends
open Go.RowKit Go.Proofs.YtcjhbmjimjbphaaW.PrintWords Go.Proofs.YtcjhbmjimjbphaaW.PrintLast Go.Proofs.YtcjhbmjimjbphaaW.PrintMore Go.Proofs.Ytcjhbmjimjbphaa.Sq
attribute [local go_sem] max2_int min2_int max_two min_two max_three min_three max_four min_four   -- for this text's walks alone
set_option linter.unusedVariables false
set_option linter.unusedSimpArgs false
theorem sABelo_6 {b : Nat} {w W : World} (h : Below b w W := by repeat (first | (with_reducible first | exact Aside0.out (by assumption) | apply below_alloc | apply pw_below_drewN | apply below_drew1 | refine below_set ?_ (Aside0.out (by assumption))) | exact Aside0.out (by assumption))) : Below b w W := h

/-! ### impl_Certified: function 15 -/
mutual
def impl_Certified.l0 : Nat → List Int → Int → List Int → Int → Int → Int → List Int → List Int → List (S52) → Option (Bool)
 | 0, _, _, _, _, _, _, _, _, _ => none
 | k + 1, x1, x5, x6, x19, x20, x154000, x154001, x154002, x154003 => if x20 < x19 then ((some (([(-1), 1] : List Int) : List Int)).bind fun y161 => (impl_Certified.l1 k x1 x5 x6 x20 x19 x20 y161 (y161.length : Int) 0 x154000 x154001 x154002 x154003)) else (some true)
def impl_Certified.l1 : Nat → List Int → Int → List Int → Int → Int → Int → List Int → Int → Int → Int → List Int → List Int → List (S52) → Option (Bool)
 | 0, _, _, _, _, _, _, _, _, _, _, _, _, _ => none
 | k + 1, x1, x5, x6, x7, x19, x20, x23, x24, x25, x154000, x154001, x154002, x154003 => if x25 < x24 then (if 0 ≤ x25 then (if x25 < (x23.length : Int) then (if 0 ≤ x7 then (if x7 < (x1.length : Int) then (if x7 < (x6.length : Int) then ((some (x6.set (x7 : Int).toNat (wrap64 ((rd x1 x7) + (rd x23 x25))) : List Int)).bind fun y168 => ((impl_point.f k x154000 x154001 x154002 x154003 y168).bind fun t169 => (if t169 = true then ((impl_cost.f k x154000 x154001 x154002 x154003 y168).bind fun t170 => (if t170 < x5 then (some false) else (impl_Certified.l1 k x1 x5 y168 x7 x19 x20 x23 x24 (wrap64 (x25 + 1)) x154000 x154001 x154002 x154003))) else (impl_Certified.l1 k x1 x5 y168 x7 x19 x20 x23 x24 (wrap64 (x25 + 1)) x154000 x154001 x154002 x154003)))) else (none)) else (none)) else (none)) else (none)) else (none)) else (if 0 ≤ x7 then (if x7 < (x1.length : Int) then (if x7 < (x6.length : Int) then (impl_Certified.l0 k x1 x5 (x6.set (x7 : Int).toNat (rd x1 x7)) x19 (wrap64 (x20 + 1)) x154000 x154001 x154002 x154003) else (none)) else (none)) else (none))
end
def impl_Certified.f (k : Nat) (a0_0 : Int) (l0_1 : List Int) (l0_2 : List Int) (l0_3 : List (S52)) (l1 : List Int) : Option (Bool) := (impl_Cost.f k a0_0 l0_1 l0_2 l0_3 l1).bind fun t154 => (if t154 < 0 then (some false) else ((some (([] : List Int) : List Int)).bind fun y155 => (if y155.length + l1.length < 17592186044416 then ((some (y155 ++ l1 : List Int)).bind fun y158 => (impl_Certified.l0 k l1 t154 y158 (y158.length : Int) 0 a0_0 l0_1 l0_2 l0_3)) else (none))))
theorem impl_Certified.mono_l : ∀ k, (∀ y0 y1 y2 y3 y4 y5 y6 y7 y8, LeO (impl_Certified.l0 k y0 y1 y2 y3 y4 y5 y6 y7 y8) (impl_Certified.l0 (k + 1) y0 y1 y2 y3 y4 y5 y6 y7 y8)) ∧ (∀ y0 y1 y2 y3 y4 y5 y6 y7 y8 y9 y10 y11 y12, LeO (impl_Certified.l1 k y0 y1 y2 y3 y4 y5 y6 y7 y8 y9 y10 y11 y12) (impl_Certified.l1 (k + 1) y0 y1 y2 y3 y4 y5 y6 y7 y8 y9 y10 y11 y12))
 | 0 => ⟨fun _ _ _ _ _ _ _ _ _ r h => by simp [impl_Certified.l0] at h, fun _ _ _ _ _ _ _ _ _ _ _ _ _ r h => by simp [impl_Certified.l1] at h⟩
 | k + 1 => by
  obtain ⟨ih0, ih1⟩ := impl_Certified.mono_l k
  refine ⟨?_, ?_⟩
  intro y0 y1 y2 y3 y4 y5 y6 y7 y8; unfold impl_Certified.l0; rotate_left
  intro y0 y1 y2 y3 y4 y5 y6 y7 y8 y9 y10 y11 y12; unfold impl_Certified.l1; rotate_left
  all_goals repeat' first
  | (with_reducible exact ih0 _ _ _ _ _ _ _ _ _)
  | (with_reducible exact ih1 _ _ _ _ _ _ _ _ _ _ _ _ _)
  | (with_reducible exact impl_Cost.mono _ _ _ _ _ _)
  | (with_reducible exact impl_cost.mono _ _ _ _ _ _)
  | (with_reducible exact impl_point.mono _ _ _ _ _ _)
  | (with_reducible exact LeO.refl _)
  | (with_reducible exact LeO.none _)
  | (with_reducible refine LeO.ite ?_ ?_)
  | (with_reducible refine LeO.bind ?_ (fun _ => ?_))
  | exact ih0 _ _ _ _ _ _ _ _ _
  | exact ih1 _ _ _ _ _ _ _ _ _ _ _ _ _
  | exact impl_Cost.mono _ _ _ _ _ _
  | exact impl_cost.mono _ _ _ _ _ _
  | exact impl_point.mono _ _ _ _ _ _
  | exact LeO.none _
  | refine LeO.ite ?_ ?_
  | refine LeO.bind ?_ (fun _ => ?_)
theorem impl_Certified.mono : ∀ a0 a1 a2 a3 a4 k, LeO (impl_Certified.f k a0 a1 a2 a3 a4) (impl_Certified.f (k + 1) a0 a1 a2 a3 a4) := by
 intro a0 a1 a2 a3 a4 k
 obtain ⟨ih0, ih1⟩ := impl_Certified.mono_l k
 unfold impl_Certified.f
 repeat' first
   | (with_reducible exact ih0 _ _ _ _ _ _ _ _ _)
   | (with_reducible exact ih1 _ _ _ _ _ _ _ _ _ _ _ _ _)
   | (with_reducible exact impl_Cost.mono _ _ _ _ _ _)
   | (with_reducible exact impl_cost.mono _ _ _ _ _ _)
   | (with_reducible exact impl_point.mono _ _ _ _ _ _)
   | (with_reducible exact LeO.refl _)
   | (with_reducible exact LeO.none _)
   | (with_reducible refine LeO.ite ?_ ?_)
   | (with_reducible refine LeO.bind ?_ (fun _ => ?_))
   | exact ih0 _ _ _ _ _ _ _ _ _
   | exact ih1 _ _ _ _ _ _ _ _ _ _ _ _ _
   | exact impl_Cost.mono _ _ _ _ _ _
   | exact impl_cost.mono _ _ _ _ _ _
   | exact impl_point.mono _ _ _ _ _ _
   | exact LeO.none _
   | refine LeO.ite ?_ ?_
   | refine LeO.bind ?_ (fun _ => ?_)
set_option maxHeartbeats 8000000 in
set_option maxRecDepth 100000 in
theorem impl_Certified.calls (k : Nat) (a0_0 : Int) (A0_1 : Option Addr) (c0_1 : Nat) (l0_1 : List Int) (A0_2 : Option Addr) (c0_2 : Nat) (l0_2 : List Int) (A0_3 : Option Addr) (c0_3 : Nat) (l0_3 : List (S52)) (A1 : Option Addr) (c1 : Nat) (l1 : List Int) (r : Bool) (w : World) (hr0_1 : Kd.C (Kd.int .i64) w A0_1 l0_1.length l0_1) (hc0_1 : l0_1.length ≤ c0_1) (hr0_2 : Kd.C (Kd.int .i64) w A0_2 l0_2.length l0_2) (hc0_2 : l0_2.length ≤ c0_2) (hr0_3 : Kd.C k52 w A0_3 l0_3.length l0_3) (hc0_3 : l0_3.length ≤ c0_3) (hr1 : Kd.C (Kd.int .i64) w A1 l1.length l1) (hc1 : l1.length ≤ c1) (h : impl_Certified.f k a0_0 l0_1 l0_2 l0_3 l1 = some r) :
  Calls Try.prog 15 #[.agg #[.int .i64 a0_0, .slice A0_1 l0_1.length c0_1, .slice A0_2 l0_2.length c0_2, .slice A0_3 l0_3.length c0_3], .slice A1 l1.length c1] w fun e w' => e = .returned (.bool r) ∧ Below w.heap.size w w' := by
 have hu30 := Try.underlying30; have HR0_1 := Aside0.mk hr0_1; have HC0_1 := Aside0.mk hc0_1; clear hr0_1 hc0_1; have HR0_2 := Aside0.mk hr0_2; have HC0_2 := Aside0.mk hc0_2; clear hr0_2 hc0_2; have HR0_3 := Aside0.mk hr0_3; have HC0_3 := Aside0.mk hc0_3; clear hr0_3 hc0_3; have HR1 := Aside0.mk hr1; have HC1 := Aside0.mk hc1; clear hr1 hc1
 have HB := Aside0.mk (Below.refl w.heap.size w)
 have H : ((impl_Cost.f k a0_0 l0_1 l0_2 l0_3 l1).bind fun t154 => (if t154 < 0 then (some false) else ((some (([] : List Int) : List Int)).bind fun y155 => (if y155.length + l1.length < 17592186044416 then ((some (y155 ++ l1 : List Int)).bind fun y158 => (impl_Certified.l0 k l1 t154 y158 (y158.length : Int) 0 a0_0 l0_1 l0_2 l0_3)) else (none))))) = some r := h
 clear h; replace H := Option.bind_eq_some_iff.mp H
 obtain ⟨t154, A30, H⟩ := H
 replace H : (if t154 < 0 then (some false) else ((some (([] : List Int) : List Int)).bind fun y155 => (if y155.length + l1.length < 17592186044416 then ((some (y155 ++ l1 : List Int)).bind fun y158 => (impl_Certified.l0 k l1 t154 y158 (y158.length : Int) 0 a0_0 l0_1 l0_2 l0_3)) else (none)))) = some r := H
 have A3 := Aside0.mk A30; clear A30
 by_cases c4 : t154 < 0
 ·rw [if_pos c4] at H
  have c4b0 := decide_eq_true c4
  clear c4
  obtain rfl := Option.some.inj H
  go_enter Try.func15, Try.ntmps15
  go_wp2_with (first | ((with_reducible refine gate_dst (N := 2) rfl ?_); refine box_event ?hg (N := 2) ?hd (cs := #[.int .i64 a0_0, .slice A0_1 l0_1.length c0_1, .slice A0_2 l0_2.length c0_2, .slice A0_3 l0_3.length c0_3]) (t := 30) ?hr ?_; (case hd => rfl); (case hg => rfl); (case hr => first | (go_simp; done) | (go_simp; rfl)); intro gb153 hg w5 hbox hb; have BK153 := Aside0.mk (hbox); have GW153 := gE_ HB hg; have GE153 := gE_ HB hg; replace HB := bS_ HB hb; clear hb hbox hg; obtain ⟨hcz6_0, hcz6_1, hcz6_2, hcz6_3, hfz6_0, hfz6_1, hfz6_2, hfz6_3⟩ := cf4_ BK153) | ((with_reducible refine gate_callee (f := 11) rfl ?_); refine gL_ (some 12) Try.func11 #[.agg #[.int .i64 a0_0, .slice A0_1 l0_1.length c0_1, .slice A0_2 l0_2.length c0_2, .slice A0_3 l0_3.length c0_3], .slice A1 l1.length c1] ?_; (with_reducible refine (impl_Cost.calls k a0_0 _ _ l0_1 _ _ l0_2 _ _ l0_3 _ _ l1 t154 _ ?side1 ?side2 ?side3 ?side4 ?side5 ?side6 ?side7 ?side8 A3.out).mono ?_); (case side1 => exact cB_ HR0_1 HB); (case side2 => exact HC0_1.out); (case side3 => exact cB_ HR0_2 HB); (case side4 => exact HC0_2.out); (case side5 => exact cB_ HR0_3 HB); (case side6 => exact HC0_3.out); (case side7 => exact cB_ HR1 HB); (case side8 => exact HC1.out); rintro e w7 ⟨rfl, hb⟩; refine ⟨_, rfl, ?_⟩; replace BK153 := bB_ BK153 hb; replace HB := bS_ HB hb; (try clear hb)))
  go_ret
  exact ⟨by first | rfl | (simp [errW_none, errW_some] <;> rfl) | (simp [*, errW_none, errW_some] <;> rfl), sABelo_6⟩
 ·rw [if_neg c4] at H
  have c4b0 := decide_eq_false c4
  clear c4
  obtain ⟨y155, hy155⟩ : ∃ y_ : List Int, y_ = (([] : List Int)) := ⟨_, rfl⟩
  replace H : (if y155.length + l1.length < 17592186044416 then ((some (y155 ++ l1 : List Int)).bind fun y158 => (impl_Certified.l0 k l1 t154 y158 (y158.length : Int) 0 a0_0 l0_1 l0_2 l0_3)) else (none)) = some r := by first | (rw [hy155]; with_reducible exact H) | (have H2_ := (Option.bind_some _ _).symm.trans H; rw [hy155]; with_reducible exact H2_) | (have H2_ := (Option.bind_some _ _).symm.trans H; with_reducible exact H2_) | with_reducible exact H | (rw [hy155]; exact H) | exact H
  have Ny155 := Aside0.mk hy155; clear hy155
  obtain ⟨c8, H⟩ := ifS_ H
  have LMc8 := Aside0.mk c8; clear c8
  obtain ⟨y158, hy158⟩ : ∃ y_ : List Int, y_ = (y155 ++ l1) := ⟨_, rfl⟩
  replace H : (impl_Certified.l0 k l1 t154 y158 (y158.length : Int) 0 a0_0 l0_1 l0_2 l0_3) = some r := by first | (rw [hy158]; with_reducible exact H) | (have H2_ := (Option.bind_some _ _).symm.trans H; rw [hy158]; with_reducible exact H2_) | (have H2_ := (Option.bind_some _ _).symm.trans H; with_reducible exact H2_) | with_reducible exact H | (rw [hy158]; exact H) | exact H
  have Ny158 := Aside0.mk hy158; clear hy158; have H' := Aside0.mk H; clear H
  go_enter Try.func15, Try.ntmps15
  go_wp2_with (first | ((with_reducible refine gate_dst (N := 2) rfl ?_); refine box_event ?hg (N := 2) ?hd (cs := #[.int .i64 a0_0, .slice A0_1 l0_1.length c0_1, .slice A0_2 l0_2.length c0_2, .slice A0_3 l0_3.length c0_3]) (t := 30) ?hr ?_; (case hd => rfl); (case hg => rfl); (case hr => first | (go_simp; done) | (go_simp; rfl)); intro gb153 hg w9 hbox hb; have BK153 := Aside0.mk (hbox); have GW153 := gE_ HB hg; have GE153 := gE_ HB hg; replace HB := bS_ HB hb; clear hb hbox hg; obtain ⟨hcz10_0, hcz10_1, hcz10_2, hcz10_3, hfz10_0, hfz10_1, hfz10_2, hfz10_3⟩ := cf4_ BK153) | ((with_reducible refine gate_callee (f := 11) rfl ?_); refine gL_ (some 12) Try.func11 #[.agg #[.int .i64 a0_0, .slice A0_1 l0_1.length c0_1, .slice A0_2 l0_2.length c0_2, .slice A0_3 l0_3.length c0_3], .slice A1 l1.length c1] ?_; (with_reducible refine (impl_Cost.calls k a0_0 _ _ l0_1 _ _ l0_2 _ _ l0_3 _ _ l1 t154 _ ?side1 ?side2 ?side3 ?side4 ?side5 ?side6 ?side7 ?side8 A3.out).mono ?_); (case side1 => exact cB_ HR0_1 HB); (case side2 => exact HC0_1.out); (case side3 => exact cB_ HR0_2 HB); (case side4 => exact HC0_2.out); (case side5 => exact cB_ HR0_3 HB); (case side6 => exact HC0_3.out); (case side7 => exact cB_ HR1 HB); (case side8 => exact HC1.out); rintro e w11 ⟨rfl, hb⟩; refine ⟨_, rfl, ?_⟩; replace BK153 := bB_ BK153 hb; replace HB := bS_ HB hb; (try clear hb)) | ((with_reducible refine gate_dst (N := 15) rfl ?_); refine Kd.R_lit (Kd.int .i64) _ 2 ?hg (N := 15) ?hd (xs := ([] : List Int)) (inner := []) (ok := fun _ => True) (okp := fun _ => True) ?hr ?hp (fun _ hk => hk) trivial (Below.refl _ _) (Nat.le_refl _) (by simp) ?_; (case hd => rfl); (case hg => rfl); (case hr => first | (go_simp; done) | (go_simp; rfl)); (case hp => exact (Reps.none _ _)); intro v156 w12 ho13 hb hg_ hnew_; clear hg_ hnew_; (first | rw [← Ny155.out] at ho13 | (simp only [Int.reduceToNat] at ho13; rw [← Ny155.out] at ho13)); have HO157 := rL_ ho13 HB; replace BK153 := bB_ BK153 hb; replace HB := bS_ HB hb; clear hb ho13) | ((with_reducible refine gate_builtin (b := .append) (xs := #[.tmp 15, .tmp 16]) rfl ?_); at_builtin; refine Kd.R_append_rows (Kd.int .i64) (w0 := w) w.heap.size rfl (.tmp 15) (.tmp 16) 22 2 (.int .i64 0) 8 rfl Try.underlying22 info2 rfl (by decide) (by omega) v156 y155 l1 _ _ _ (fun _ => True) (fun _ => False) rfl rfl ?aO ?aR (fun _ _ h => h) (fun _ h => h.elim) ?aF ?aB ?aS ?aL ?_; (case aR => repeat (first | exact (Kd.C_below HR1.out HB.out) | (with_reducible refine Kd.C_alloc ?_ _) | (with_reducible refine Kd.C_drewN ?_ _) | (with_reducible refine Kd.C_drew ?_))); (case aB => exact sABelo_6); (case aF => exact (fun _ _ => trivial)); (case aO => exact (rT_ HO157)); (case aS => exact (below_size sABelo_6)); (case aL => have := LMc8.out; omega); intro v159 w14 ho hb hg hat; rw [← Ny158.out] at ho; replace BK153 := Aside0.mk (blk_grown (g := gb153) (o := .cells #[.int .i64 a0_0, .slice A0_1 l0_1.length c0_1, .slice A0_2 l0_2.length c0_2, .slice A0_3 l0_3.length c0_3] 30 (0, 0)) (bT_ BK153) hg (Kd.R_ne HO157.out BK153.out (by decide))); replace HB := Aside0.mk (hb); have HO160 := Aside0.mk (ho); clear HO157; clear ho hb hg hat; obtain ⟨Ao15, co15, eo15⟩ := Kd.R_slice HO160.out; subst eo15))
  go_loopg [20] k (fun kq v20 w' => ∃ (x6_1 : List Int) (x20_1 : Int), v20 = .int .i64 x20_1 ∧ Aside0 (impl_Certified.l0 kq l1 t154 x6_1 (y158.length : Int) x20_1 a0_0 l0_1 l0_2 l0_3 = some r) ∧ Aside0 (kq ≤ k) ∧ Aside0 (Kd.R (Kd.int .i64) 2 w' w.heap.size (fun _ => True) (.slice Ao15 y158.length co15) x6_1) ∧ Aside0 (w'.heap[gb153]? = some (.cells #[.int .i64 a0_0, (.slice A0_1 l0_1.length c0_1), (.slice A0_2 l0_2.length c0_2), (.slice A0_3 l0_3.length c0_3)] 30 (0, 0))) ∧ Aside0 (Below w.heap.size w w'))
  case atStart => exact ⟨(y158), (0), (by first | rfl | (simp; done) | (simp [*]; done)), H', ⟨Nat.le_refl _⟩, ⟨rT_ HO160⟩, ⟨bT_ BK153⟩, ⟨sABelo_6⟩⟩
  case round =>
   clear H'; (try clear c1); (try clear c4); (try clear c4b0); (try clear c8); (try clear hcz10_0); (try clear hcz10_1); (try clear hcz10_2); (try clear hcz10_3); (try clear hfz10_0); (try clear hfz10_1); (try clear hfz10_2); (try clear hfz10_3)
   obtain ⟨x6_1, x20_1, rfl, HA, HK1, HO_6, BK153, HB⟩ := hrel
   have hl6_1 := (Kd.R_reads' HO_6.out).1
   rw [hl6_1] at HO_6
   (try simp only [hl6_1])
   (try simp only [hl6_1] at BK153)
   cases gk with
   | zero => exact absurd HA.out (by simp [impl_Certified.l0])
   | succ k1 =>
    have H := HA.out; clear HA
    simp only [impl_Certified.l0] at H
    by_cases c16 : x20_1 < (y158.length : Int)
    ·rw [if_pos c16] at H
     have c16b0 := decide_eq_true c16
     have c16b0q := c16b0
     (try simp only [hl6_1] at c16b0q)
     clear c16
     obtain ⟨y161, hy161⟩ : ∃ y_ : List Int, y_ = (([(-1), 1] : List Int)) := ⟨_, rfl⟩
     replace H : (impl_Certified.l1 k1 l1 t154 x6_1 x20_1 (y158.length : Int) x20_1 y161 (y161.length : Int) 0 a0_0 l0_1 l0_2 l0_3) = some r := by first | (rw [hy161]; with_reducible exact H) | (have H2_ := (Option.bind_some _ _).symm.trans H; rw [hy161]; with_reducible exact H2_) | (have H2_ := (Option.bind_some _ _).symm.trans H; with_reducible exact H2_) | with_reducible exact H | (rw [hy161]; exact H) | exact H
     have Ny161 := Aside0.mk hy161; clear hy161; have H' := Aside0.mk H; clear H
     go_wp2_with (first | ((with_reducible refine gate_dst (N := 23) rfl ?_); refine Kd.R_lit (Kd.int .i64) _ 2 ?hg (N := 23) ?hd (xs := ([(-1), 1] : List Int)) (inner := [.int .i64 (-1), .int .i64 1]) (ok := fun _ => True) (okp := fun _ => True) ?hr ?hp (fun _ hk => hk) trivial (Below.refl _ _) (Nat.le_refl _) (by simp) ?_; (case hd => rfl); (case hg => rfl); (case hr => first | (go_simp; done) | (go_simp; rfl)); (case hp => exact (Reps.one (show Kd.M (Kd.int .i64) _ _ _ (-1) [.int .i64 (-1)] from rfl) (Reps.one (show Kd.M (Kd.int .i64) _ _ _ 1 [.int .i64 1] from rfl) (Reps.none _ _)))); intro v162 w17 ho18 hb hg_ hnew_; clear hg_ hnew_; (first | rw [← Ny161.out] at ho18 | (simp only [Int.reduceToNat] at ho18; rw [← Ny161.out] at ho18)); have HO163 := rL_ (rN_ ho18 HO_6) HB; replace HO_6 := rE_ HO_6 ho18 hb; replace BK153 := bB_ BK153 hb; replace HB := bS_ HB hb; clear hb ho18; obtain ⟨Ao19, co19, eo19⟩ := Kd.R_slice HO163.out; subst eo19))
     go_loopg [25] k1 (fun kq v25 w' => ∃ (x6_2 : List Int) (x25_2 : Int), v25 = .int .i64 x25_2 ∧ Aside0 (impl_Certified.l1 kq l1 t154 x6_2 x20_1 (y158.length : Int) x20_1 y161 (y161.length : Int) x25_2 a0_0 l0_1 l0_2 l0_3 = some r) ∧ Aside0 (kq ≤ k1) ∧ Aside0 (Kd.R (Kd.int .i64) 2 w' w.heap.size (fun k_ => some k_ ≠ ((.slice Ao19 y161.length co19) : Value).ownBlock) (.slice Ao15 x6_1.length co15) x6_2) ∧ Aside0 (Kd.R (Kd.int .i64) 2 w' w.heap.size (fun k_ => some k_ ≠ ((.slice Ao15 x6_1.length co15) : Value).ownBlock) (.slice Ao19 y161.length co19) y161) ∧ Aside0 (w'.heap[gb153]? = some (.cells #[.int .i64 a0_0, (.slice A0_1 l0_1.length c0_1), (.slice A0_2 l0_2.length c0_2), (.slice A0_3 l0_3.length c0_3)] 30 (0, 0))) ∧ Aside0 (Below w.heap.size w w'))
     case atStart => exact ⟨(x6_1), (0), (by first | rfl | (simp; done) | (simp [*]; done)), H', ⟨Nat.le_refl _⟩, ⟨by (try simp only [hl6_1]); (with_reducible repeat (first | apply Kd.R_alloc | apply Kd.R_drewN | apply Kd.R_drew)); exact Kd.R_mono HO_6.out (fun _ hk => hk.2)⟩, ⟨by (try simp only [hl6_1]); (with_reducible repeat (first | apply Kd.R_alloc | apply Kd.R_drewN | apply Kd.R_drew)); exact Kd.R_mono HO163.out (fun _ hk => hk.2)⟩, ⟨by (try simp only [hl6_1]); exact bT_ BK153⟩, ⟨sABelo_6⟩⟩
     case round =>
      clear H'; (try clear c1); (try clear c4); (try clear c4b0); (try clear c8); (try clear c16); (try clear c16b0); (try clear hcz10_0); (try clear hcz10_1); (try clear hcz10_2); (try clear hcz10_3); (try clear hfz10_0); (try clear hfz10_1); (try clear hfz10_2); (try clear hfz10_3)
      obtain ⟨x6_2, x25_2, rfl, HA, HK2, HO_6, HO_23, BK153, HB⟩ := hrel
      have hl6_2 := (Kd.R_reads' HO_6.out).1
      rw [hl6_2] at HO_6
      (try simp only [hl6_2])
      (try simp only [hl6_2] at BK153)
      (try simp only [hl6_2] at HO_23)
      cases gk with
      | zero => exact absurd HA.out (by simp [impl_Certified.l1])
      | succ k2 =>
       have H := HA.out; clear HA
       simp only [impl_Certified.l1] at H
       by_cases c20 : x25_2 < (y161.length : Int)
       ·rw [if_pos c20] at H
        have c20b0 := decide_eq_true c20
        have c20b0q := c20b0
        (try simp only [hl6_1, hl6_2] at c20b0q)
        clear c20
        obtain ⟨c21, H⟩ := ifS_ H
        have c21b0 : decide (0 ≤ x25_2) = true := decide_eq_true c21
        clear c21
        obtain ⟨c22, H⟩ := ifS_ H
        have c22b0 : decide (x25_2 < (y161.length : Int)) = true := decide_eq_true c22
        have c22b0q := c22b0
        (try simp only [hl6_1, hl6_2] at c22b0q)
        clear c22
        obtain ⟨c23, H⟩ := ifS_ H
        have c23b0 : decide (0 ≤ x20_1) = true := decide_eq_true c23
        clear c23
        obtain ⟨c24, H⟩ := ifS_ H
        have c24b0 : decide (x20_1 < (l1.length : Int)) = true := decide_eq_true c24
        have c24b0q := c24b0
        (try simp only [hl6_1, hl6_2] at c24b0q)
        clear c24
        obtain ⟨c25, H⟩ := ifS_ H
        have c25b0 : decide (x20_1 < (x6_2.length : Int)) = true := decide_eq_true c25
        have c25b0q := c25b0
        (try simp only [hl6_1, hl6_2] at c25b0q)
        clear c25
        obtain ⟨y168, hy168⟩ : ∃ y_ : List Int, y_ = (x6_2.set (x20_1 : Int).toNat (wrap64 ((rd l1 x20_1) + (rd y161 x25_2)))) := ⟨_, rfl⟩
        replace H : ((impl_point.f k2 a0_0 l0_1 l0_2 l0_3 y168).bind fun t169 => (if t169 = true then ((impl_cost.f k2 a0_0 l0_1 l0_2 l0_3 y168).bind fun t170 => (if t170 < t154 then (some false) else (impl_Certified.l1 k2 l1 t154 y168 x20_1 (y158.length : Int) x20_1 y161 (y161.length : Int) (wrap64 (x25_2 + 1)) a0_0 l0_1 l0_2 l0_3))) else (impl_Certified.l1 k2 l1 t154 y168 x20_1 (y158.length : Int) x20_1 y161 (y161.length : Int) (wrap64 (x25_2 + 1)) a0_0 l0_1 l0_2 l0_3))) = some r := by first | (rw [hy168]; with_reducible exact H) | (have H2_ := (Option.bind_some _ _).symm.trans H; rw [hy168]; with_reducible exact H2_) | (have H2_ := (Option.bind_some _ _).symm.trans H; with_reducible exact H2_) | with_reducible exact H | (rw [hy168]; exact H) | exact H
        have Ny168 := Aside0.mk hy168; clear hy168; replace H := Option.bind_eq_some_iff.mp H
        obtain ⟨t169, A270, H⟩ := H
        replace H : (if t169 = true then ((impl_cost.f k2 a0_0 l0_1 l0_2 l0_3 y168).bind fun t170 => (if t170 < t154 then (some false) else (impl_Certified.l1 k2 l1 t154 y168 x20_1 (y158.length : Int) x20_1 y161 (y161.length : Int) (wrap64 (x25_2 + 1)) a0_0 l0_1 l0_2 l0_3))) else (impl_Certified.l1 k2 l1 t154 y168 x20_1 (y158.length : Int) x20_1 y161 (y161.length : Int) (wrap64 (x25_2 + 1)) a0_0 l0_1 l0_2 l0_3)) = some r := H
        have A27 := Aside0.mk A270; clear A270
        by_cases c28 : t169 = true
        ·subst c28
         replace H := ifT_ H; replace H := Option.bind_eq_some_iff.mp H
         obtain ⟨t170, A290, H⟩ := H
         replace H : (if t170 < t154 then (some false) else (impl_Certified.l1 k2 l1 t154 y168 x20_1 (y158.length : Int) x20_1 y161 (y161.length : Int) (wrap64 (x25_2 + 1)) a0_0 l0_1 l0_2 l0_3)) = some r := H
         have A29 := Aside0.mk A290; clear A290
         by_cases c30 : t170 < t154
         ·rw [if_pos c30] at H
          have c30b0 := decide_eq_true c30
          clear c30
          obtain rfl := Option.some.inj H
          have p166 : 0 ≤ (x25_2 : Int) := dA_
          have q166 : x25_2 < (y161.length : Int) := dA_
          obtain ⟨ad166, e166, hx166_0⟩ := Kd.at_int (Kd.R_reads' HO_23.out).2.2 x25_2 p166 q166
          cases e166
          replace p166 := eq_true p166; replace q166 := eq_true q166
          have p167 : 0 ≤ (x20_1 : Int) := dA_
          have q167 : x20_1 < (l1.length : Int) := dA_
          obtain ⟨ad167, e167, hx167_0⟩ := Kd.at_int HR1.out x20_1 p167 q167
          cases e167
          replace hx167_0 := hX_ HB hx167_0
          replace p167 := eq_true p167; replace q167 := eq_true q167
          have p26 : 0 ≤ (x20_1 : Int) := dA_
          have q26 : (x20_1 : Int) < ((x6_2.length : Int) : Int) := dA_
          obtain ⟨go26, co26, eo26, gb26, gl26, cl26, HG26⟩ := Kd.R_form HO_6.out (by omega)
          (first | cases eo26 | (injection eo26 with ea_ en_ ec_; (first | subst ea_ | (injection ea_ with ea_; subst ea_)); subst ec_; clear en_))
          have GB26 := Aside0.mk gb26; have GG26 := Aside0.mk HG26; clear gb26 gl26 HG26
          obtain ⟨hx26_0, hf26_0⟩ := Kd.R_celln 0 HO_6.out (x20_1 : Int) p26 q26
          replace p26 := eq_true p26; replace q26 := eq_true q26
          have HP31 := Kd.R_putg HO_6.out (x20_1 : Int) (wrap64 ((rd l1 x20_1) + (rd y161 x25_2)))
          go_wp2_with (first | ((with_reducible refine gate_store (t := 2) (p := 37) rfl ?_); refine store_event (t := 2) (p := 37) (v := ?vo_w32) (w1 := (wr.setCell ⟨go26, (x20_1 : Int).toNat, none⟩ (.int .i64 (wrap64 ((rd l1 x20_1) + (rd y161 x25_2)))))) ?hg ?ho ?hn ?hr ?_; (case ho => rfl); (case hg => rfl); (case hn => rfl); (case hr => first | (go_simp; done) | (go_simp; rfl)); intro w32 hw; have hg : wr.grownBy w32 (some go26) := (by rw [hw]; exact HP31.2); have hp_ : Kd.R (Kd.int .i64) 2 w32 w.heap.size (fun k_ => some k_ ≠ (.slice (some ad166) y161.length co19 : Value).ownBlock) (.slice (some ⟨go26, 0, none⟩) x6_2.length co15) y168 := (by rw [hw, Ny168.out]; exact HP31.1); clear HP31; replace HO_23 := Aside0.mk (Kd.R_after (v := (.slice (some ⟨go26, 0, none⟩) x6_2.length co15)) (v1 := (.slice (some ⟨go26, 0, none⟩) x6_2.length co15)) (ok := (fun _ => True)) (rM_ HO_23 (fun _ hk => ⟨trivial, hk⟩)) hg (.inl rfl)); replace BK153 := Aside0.mk (blk_grown (g := gb153) (o := .cells #[.int .i64 a0_0, .slice A0_1 l0_1.length c0_1, .slice A0_2 l0_2.length c0_2, .slice A0_3 l0_3.length c0_3] 30 (0, 0)) (bT_ BK153) hg (Kd.R_ne HO_6.out BK153.out (by decide))); replace HO_6 := Aside0.mk (hp_); replace HB := Aside0.mk ((by rw [hw]; exact below_set (HB.out) GB26.out : Below w.heap.size w w32)); clear hg hw hp_; obtain ⟨hcz33_0, hcz33_1, hcz33_2, hcz33_3, hfz33_0, hfz33_1, hfz33_2, hfz33_3⟩ := cf4_ BK153) | ((with_reducible refine gate_callee (f := 32) rfl ?_); refine goesL_ (some 40) rfl rfl Try.func32 (by kernel_rfl) rfl #[.agg #[.int .i64 a0_0, .slice A0_1 l0_1.length c0_1, .slice A0_2 l0_2.length c0_2, .slice A0_3 l0_3.length c0_3], .slice (some ⟨go26, 0, none⟩) y168.length co15] rfl (by (try simp only [List.map_toArray, List.map_cons, List.map_nil]); first | done | (rw [show y168.length = x6_2.length from (Kd.R_reads' HO_6.out).1.symm] <;> rfl) | rfl | (simp only [List.length_drop, List.length_take]; rfl)) ?_; (with_reducible refine (impl_point.calls k2 a0_0 _ _ l0_1 _ _ l0_2 _ _ l0_3 _ _ y168 true _ ?side1 ?side2 ?side3 ?side4 ?side5 ?side6 ?side7 ?side8 A27.out).mono ?_); (case side1 => exact cB_ HR0_1 HB); (case side2 => exact HC0_1.out); (case side3 => exact cB_ HR0_2 HB); (case side4 => exact HC0_2.out); (case side5 => exact cB_ HR0_3 HB); (case side6 => exact HC0_3.out); (case side7 => exact rD_ HO_6); (case side8 => rw [show y168.length = x6_2.length from (Kd.R_reads' HO_6.out).1.symm]; exact (Kd.R_reads' HO_6.out).2.1); rintro e w34 ⟨rfl, hb⟩; refine ⟨_, rfl, ?_⟩; replace HO_6 := rB_ HO_6 hb; replace HO_23 := rB_ HO_23 hb; replace BK153 := bB_ BK153 hb; replace HB := bS_ HB hb; (try clear hb); (try clear hk); obtain ⟨hcz35_0, hcz35_1, hcz35_2, hcz35_3, hfz35_0, hfz35_1, hfz35_2, hfz35_3⟩ := cf4_ BK153) | (go_at_call 33; refine calls_of_args (args' := #[.agg #[.int .i64 a0_0, .slice A0_1 l0_1.length c0_1, .slice A0_2 l0_2.length c0_2, .slice A0_3 l0_3.length c0_3], .slice (some ⟨go26, 0, none⟩) y168.length co15]) (by first | (rw [show y168.length = x6_2.length from (Kd.R_reads' HO_6.out).1.symm] <;> rfl) | rfl) ?_; (with_reducible refine (impl_cost.calls k2 a0_0 _ _ l0_1 _ _ l0_2 _ _ l0_3 _ _ y168 t170 _ ?side1 ?side2 ?side3 ?side4 ?side5 ?side6 ?side7 ?side8 A29.out).mono ?_); (case side1 => exact cB_ HR0_1 HB); (case side2 => exact HC0_1.out); (case side3 => exact cB_ HR0_2 HB); (case side4 => exact HC0_2.out); (case side5 => exact cB_ HR0_3 HB); (case side6 => exact HC0_3.out); (case side7 => exact rD_ HO_6); (case side8 => rw [show y168.length = x6_2.length from (Kd.R_reads' HO_6.out).1.symm]; exact (Kd.R_reads' HO_6.out).2.1); rintro e w36 ⟨rfl, hb⟩; replace HO_6 := rB_ HO_6 hb; replace HO_23 := rB_ HO_23 hb; replace BK153 := bB_ BK153 hb; replace HB := bS_ HB hb; (try clear hb); (try clear hk)))
          go_ret
          exact ⟨by first | rfl | (simp [errW_none, errW_some] <;> rfl) | (simp [*, errW_none, errW_some] <;> rfl), sABelo_6⟩
         ·rw [if_neg c30] at H
          have c30b0 := decide_eq_false c30
          clear c30; have H' := Aside0.mk H; clear H
          have p166 : 0 ≤ (x25_2 : Int) := dA_
          have q166 : x25_2 < (y161.length : Int) := dA_
          obtain ⟨ad166, e166, hx166_0⟩ := Kd.at_int (Kd.R_reads' HO_23.out).2.2 x25_2 p166 q166
          cases e166
          replace p166 := eq_true p166; replace q166 := eq_true q166
          have p167 : 0 ≤ (x20_1 : Int) := dA_
          have q167 : x20_1 < (l1.length : Int) := dA_
          obtain ⟨ad167, e167, hx167_0⟩ := Kd.at_int HR1.out x20_1 p167 q167
          cases e167
          replace hx167_0 := hX_ HB hx167_0
          replace p167 := eq_true p167; replace q167 := eq_true q167
          have p26 : 0 ≤ (x20_1 : Int) := dA_
          have q26 : (x20_1 : Int) < ((x6_2.length : Int) : Int) := dA_
          obtain ⟨go26, co26, eo26, gb26, gl26, cl26, HG26⟩ := Kd.R_form HO_6.out (by omega)
          (first | cases eo26 | (injection eo26 with ea_ en_ ec_; (first | subst ea_ | (injection ea_ with ea_; subst ea_)); subst ec_; clear en_))
          have GB26 := Aside0.mk gb26; have GG26 := Aside0.mk HG26; clear gb26 gl26 HG26
          obtain ⟨hx26_0, hf26_0⟩ := Kd.R_celln 0 HO_6.out (x20_1 : Int) p26 q26
          replace p26 := eq_true p26; replace q26 := eq_true q26
          have HP37 := Kd.R_putg HO_6.out (x20_1 : Int) (wrap64 ((rd l1 x20_1) + (rd y161 x25_2)))
          go_wp2_with (first | ((with_reducible refine gate_store (t := 2) (p := 37) rfl ?_); refine store_event (t := 2) (p := 37) (v := ?vo_w38) (w1 := (wr.setCell ⟨go26, (x20_1 : Int).toNat, none⟩ (.int .i64 (wrap64 ((rd l1 x20_1) + (rd y161 x25_2)))))) ?hg ?ho ?hn ?hr ?_; (case ho => rfl); (case hg => rfl); (case hn => rfl); (case hr => first | (go_simp; done) | (go_simp; rfl)); intro w38 hw; have hg : wr.grownBy w38 (some go26) := (by rw [hw]; exact HP37.2); have hp_ : Kd.R (Kd.int .i64) 2 w38 w.heap.size (fun k_ => some k_ ≠ (.slice (some ad166) y161.length co19 : Value).ownBlock) (.slice (some ⟨go26, 0, none⟩) x6_2.length co15) y168 := (by rw [hw, Ny168.out]; exact HP37.1); clear HP37; replace HO_23 := Aside0.mk (Kd.R_after (v := (.slice (some ⟨go26, 0, none⟩) x6_2.length co15)) (v1 := (.slice (some ⟨go26, 0, none⟩) x6_2.length co15)) (ok := (fun _ => True)) (rM_ HO_23 (fun _ hk => ⟨trivial, hk⟩)) hg (.inl rfl)); replace BK153 := Aside0.mk (blk_grown (g := gb153) (o := .cells #[.int .i64 a0_0, .slice A0_1 l0_1.length c0_1, .slice A0_2 l0_2.length c0_2, .slice A0_3 l0_3.length c0_3] 30 (0, 0)) (bT_ BK153) hg (Kd.R_ne HO_6.out BK153.out (by decide))); replace HO_6 := Aside0.mk (hp_); replace HB := Aside0.mk ((by rw [hw]; exact below_set (HB.out) GB26.out : Below w.heap.size w w38)); clear hg hw hp_; obtain ⟨hcz39_0, hcz39_1, hcz39_2, hcz39_3, hfz39_0, hfz39_1, hfz39_2, hfz39_3⟩ := cf4_ BK153) | ((with_reducible refine gate_callee (f := 32) rfl ?_); refine goesL_ (some 40) rfl rfl Try.func32 (by kernel_rfl) rfl #[.agg #[.int .i64 a0_0, .slice A0_1 l0_1.length c0_1, .slice A0_2 l0_2.length c0_2, .slice A0_3 l0_3.length c0_3], .slice (some ⟨go26, 0, none⟩) y168.length co15] rfl (by (try simp only [List.map_toArray, List.map_cons, List.map_nil]); first | done | (rw [show y168.length = x6_2.length from (Kd.R_reads' HO_6.out).1.symm] <;> rfl) | rfl | (simp only [List.length_drop, List.length_take]; rfl)) ?_; (with_reducible refine (impl_point.calls k2 a0_0 _ _ l0_1 _ _ l0_2 _ _ l0_3 _ _ y168 true _ ?side1 ?side2 ?side3 ?side4 ?side5 ?side6 ?side7 ?side8 A27.out).mono ?_); (case side1 => exact cB_ HR0_1 HB); (case side2 => exact HC0_1.out); (case side3 => exact cB_ HR0_2 HB); (case side4 => exact HC0_2.out); (case side5 => exact cB_ HR0_3 HB); (case side6 => exact HC0_3.out); (case side7 => exact rD_ HO_6); (case side8 => rw [show y168.length = x6_2.length from (Kd.R_reads' HO_6.out).1.symm]; exact (Kd.R_reads' HO_6.out).2.1); rintro e w40 ⟨rfl, hb⟩; refine ⟨_, rfl, ?_⟩; replace HO_6 := rB_ HO_6 hb; replace HO_23 := rB_ HO_23 hb; replace BK153 := bB_ BK153 hb; replace HB := bS_ HB hb; (try clear hb); (try clear hk); obtain ⟨hcz41_0, hcz41_1, hcz41_2, hcz41_3, hfz41_0, hfz41_1, hfz41_2, hfz41_3⟩ := cf4_ BK153) | (go_at_call 33; refine calls_of_args (args' := #[.agg #[.int .i64 a0_0, .slice A0_1 l0_1.length c0_1, .slice A0_2 l0_2.length c0_2, .slice A0_3 l0_3.length c0_3], .slice (some ⟨go26, 0, none⟩) y168.length co15]) (by first | (rw [show y168.length = x6_2.length from (Kd.R_reads' HO_6.out).1.symm] <;> rfl) | rfl) ?_; (with_reducible refine (impl_cost.calls k2 a0_0 _ _ l0_1 _ _ l0_2 _ _ l0_3 _ _ y168 t170 _ ?side1 ?side2 ?side3 ?side4 ?side5 ?side6 ?side7 ?side8 A29.out).mono ?_); (case side1 => exact cB_ HR0_1 HB); (case side2 => exact HC0_1.out); (case side3 => exact cB_ HR0_2 HB); (case side4 => exact HC0_2.out); (case side5 => exact cB_ HR0_3 HB); (case side6 => exact HC0_3.out); (case side7 => exact rD_ HO_6); (case side8 => rw [show y168.length = x6_2.length from (Kd.R_reads' HO_6.out).1.symm]; exact (Kd.R_reads' HO_6.out).2.1); rintro e w42 ⟨rfl, hb⟩; replace HO_6 := rB_ HO_6 hb; replace HO_23 := rB_ HO_23 hb; replace BK153 := bB_ BK153 hb; replace HB := bS_ HB hb; (try clear hb); (try clear hk)))
          (try simp only [← hl6_2])
          go_roundg k2
          case measure => have := HK1.out; have := HK2.out; omega
          case rel => exact ⟨(y168), (wrap64 (x25_2 + 1)), (by first | rfl | (simp; done) | (simp [*]; done)), H', ⟨by have := HK1.out; have := HK2.out; omega⟩, ⟨by (try simp only [hl6_1]); (try simp only [hl6_2]); (with_reducible repeat (first | apply Kd.R_alloc | apply Kd.R_drewN | apply Kd.R_drew)); exact HO_6.out⟩, ⟨by (try simp only [hl6_1]); (try simp only [hl6_2]); (with_reducible repeat (first | apply Kd.R_alloc | apply Kd.R_drewN | apply Kd.R_drew)); exact Kd.R_mono HO_23.out (fun _ hk => hk.2)⟩, ⟨by (try simp only [hl6_1]); (try simp only [hl6_2]); exact bT_ BK153⟩, ⟨sABelo_6⟩⟩
        ·replace c28 := Bool.eq_false_iff.mpr c28
         subst c28
         replace H := ifF_ H; have H' := Aside0.mk H; clear H
         have p166 : 0 ≤ (x25_2 : Int) := dA_
         have q166 : x25_2 < (y161.length : Int) := dA_
         obtain ⟨ad166, e166, hx166_0⟩ := Kd.at_int (Kd.R_reads' HO_23.out).2.2 x25_2 p166 q166
         cases e166
         replace p166 := eq_true p166; replace q166 := eq_true q166
         have p167 : 0 ≤ (x20_1 : Int) := dA_
         have q167 : x20_1 < (l1.length : Int) := dA_
         obtain ⟨ad167, e167, hx167_0⟩ := Kd.at_int HR1.out x20_1 p167 q167
         cases e167
         replace hx167_0 := hX_ HB hx167_0
         replace p167 := eq_true p167; replace q167 := eq_true q167
         have p26 : 0 ≤ (x20_1 : Int) := dA_
         have q26 : (x20_1 : Int) < ((x6_2.length : Int) : Int) := dA_
         obtain ⟨go26, co26, eo26, gb26, gl26, cl26, HG26⟩ := Kd.R_form HO_6.out (by omega)
         (first | cases eo26 | (injection eo26 with ea_ en_ ec_; (first | subst ea_ | (injection ea_ with ea_; subst ea_)); subst ec_; clear en_))
         have GB26 := Aside0.mk gb26; have GG26 := Aside0.mk HG26; clear gb26 gl26 HG26
         obtain ⟨hx26_0, hf26_0⟩ := Kd.R_celln 0 HO_6.out (x20_1 : Int) p26 q26
         replace p26 := eq_true p26; replace q26 := eq_true q26
         have HP43 := Kd.R_putg HO_6.out (x20_1 : Int) (wrap64 ((rd l1 x20_1) + (rd y161 x25_2)))
         go_wp2_with (first | ((with_reducible refine gate_store (t := 2) (p := 37) rfl ?_); refine store_event (t := 2) (p := 37) (v := ?vo_w44) (w1 := (wr.setCell ⟨go26, (x20_1 : Int).toNat, none⟩ (.int .i64 (wrap64 ((rd l1 x20_1) + (rd y161 x25_2)))))) ?hg ?ho ?hn ?hr ?_; (case ho => rfl); (case hg => rfl); (case hn => rfl); (case hr => first | (go_simp; done) | (go_simp; rfl)); intro w44 hw; have hg : wr.grownBy w44 (some go26) := (by rw [hw]; exact HP43.2); have hp_ : Kd.R (Kd.int .i64) 2 w44 w.heap.size (fun k_ => some k_ ≠ (.slice (some ad166) y161.length co19 : Value).ownBlock) (.slice (some ⟨go26, 0, none⟩) x6_2.length co15) y168 := (by rw [hw, Ny168.out]; exact HP43.1); clear HP43; replace HO_23 := Aside0.mk (Kd.R_after (v := (.slice (some ⟨go26, 0, none⟩) x6_2.length co15)) (v1 := (.slice (some ⟨go26, 0, none⟩) x6_2.length co15)) (ok := (fun _ => True)) (rM_ HO_23 (fun _ hk => ⟨trivial, hk⟩)) hg (.inl rfl)); replace BK153 := Aside0.mk (blk_grown (g := gb153) (o := .cells #[.int .i64 a0_0, .slice A0_1 l0_1.length c0_1, .slice A0_2 l0_2.length c0_2, .slice A0_3 l0_3.length c0_3] 30 (0, 0)) (bT_ BK153) hg (Kd.R_ne HO_6.out BK153.out (by decide))); replace HO_6 := Aside0.mk (hp_); replace HB := Aside0.mk ((by rw [hw]; exact below_set (HB.out) GB26.out : Below w.heap.size w w44)); clear hg hw hp_; obtain ⟨hcz45_0, hcz45_1, hcz45_2, hcz45_3, hfz45_0, hfz45_1, hfz45_2, hfz45_3⟩ := cf4_ BK153) | ((with_reducible refine gate_callee (f := 32) rfl ?_); refine goesL_ (some 40) rfl rfl Try.func32 (by kernel_rfl) rfl #[.agg #[.int .i64 a0_0, .slice A0_1 l0_1.length c0_1, .slice A0_2 l0_2.length c0_2, .slice A0_3 l0_3.length c0_3], .slice (some ⟨go26, 0, none⟩) y168.length co15] rfl (by (try simp only [List.map_toArray, List.map_cons, List.map_nil]); first | done | (rw [show y168.length = x6_2.length from (Kd.R_reads' HO_6.out).1.symm] <;> rfl) | rfl | (simp only [List.length_drop, List.length_take]; rfl)) ?_; (with_reducible refine (impl_point.calls k2 a0_0 _ _ l0_1 _ _ l0_2 _ _ l0_3 _ _ y168 false _ ?side1 ?side2 ?side3 ?side4 ?side5 ?side6 ?side7 ?side8 A27.out).mono ?_); (case side1 => exact cB_ HR0_1 HB); (case side2 => exact HC0_1.out); (case side3 => exact cB_ HR0_2 HB); (case side4 => exact HC0_2.out); (case side5 => exact cB_ HR0_3 HB); (case side6 => exact HC0_3.out); (case side7 => exact rD_ HO_6); (case side8 => rw [show y168.length = x6_2.length from (Kd.R_reads' HO_6.out).1.symm]; exact (Kd.R_reads' HO_6.out).2.1); rintro e w46 ⟨rfl, hb⟩; refine ⟨_, rfl, ?_⟩; replace HO_6 := rB_ HO_6 hb; replace HO_23 := rB_ HO_23 hb; replace BK153 := bB_ BK153 hb; replace HB := bS_ HB hb; (try clear hb); (try clear hk)))
         (try simp only [← hl6_2])
         go_roundg k2
         case measure => have := HK1.out; have := HK2.out; omega
         case rel => exact ⟨(y168), (wrap64 (x25_2 + 1)), (by first | rfl | (simp; done) | (simp [*]; done)), H', ⟨by have := HK1.out; have := HK2.out; omega⟩, ⟨by (try simp only [hl6_1]); (try simp only [hl6_2]); (with_reducible repeat (first | apply Kd.R_alloc | apply Kd.R_drewN | apply Kd.R_drew)); exact HO_6.out⟩, ⟨by (try simp only [hl6_1]); (try simp only [hl6_2]); (with_reducible repeat (first | apply Kd.R_alloc | apply Kd.R_drewN | apply Kd.R_drew)); exact Kd.R_mono HO_23.out (fun _ hk => hk.2)⟩, ⟨by (try simp only [hl6_1]); (try simp only [hl6_2]); exact bT_ BK153⟩, ⟨sABelo_6⟩⟩
       ·rw [if_neg c20] at H
        have c20b0 := decide_eq_false c20
        have c20b0q := c20b0
        (try simp only [hl6_1, hl6_2] at c20b0q)
        clear c20
        obtain ⟨c47, H⟩ := ifS_ H
        have c47b0 : decide (0 ≤ x20_1) = true := decide_eq_true c47
        clear c47
        obtain ⟨c48, H⟩ := ifS_ H
        have c48b0 : decide (x20_1 < (l1.length : Int)) = true := decide_eq_true c48
        have c48b0q := c48b0
        (try simp only [hl6_1, hl6_2] at c48b0q)
        clear c48
        obtain ⟨c49, H⟩ := ifS_ H
        have c49b0 : decide (x20_1 < (x6_2.length : Int)) = true := decide_eq_true c49
        have c49b0q := c49b0
        (try simp only [hl6_1, hl6_2] at c49b0q)
        clear c49
        obtain ⟨y165, hy165⟩ : ∃ y_ : List Int, y_ = (x6_2.set (x20_1 : Int).toNat (rd l1 x20_1)) := ⟨_, rfl⟩
        replace H : (impl_Certified.l0 k2 l1 t154 y165 (y158.length : Int) (wrap64 (x20_1 + 1)) a0_0 l0_1 l0_2 l0_3) = some r := by first | (rw [hy165]; with_reducible exact H) | (have H2_ := (Option.bind_some _ _).symm.trans H; rw [hy165]; with_reducible exact H2_) | (have H2_ := (Option.bind_some _ _).symm.trans H; with_reducible exact H2_) | with_reducible exact H | (rw [hy165]; exact H) | exact H
        have Ny165 := Aside0.mk hy165; clear hy165; have H' := Aside0.mk H; clear H
        have p164 : 0 ≤ (x20_1 : Int) := dA_
        have q164 : x20_1 < (l1.length : Int) := dA_
        obtain ⟨ad164, e164, hx164_0⟩ := Kd.at_int HR1.out x20_1 p164 q164
        cases e164
        replace hx164_0 := hX_ HB hx164_0
        replace p164 := eq_true p164; replace q164 := eq_true q164
        have p50 : 0 ≤ (x20_1 : Int) := dA_
        have q50 : (x20_1 : Int) < ((x6_2.length : Int) : Int) := dA_
        obtain ⟨go50, co50, eo50, gb50, gl50, cl50, HG50⟩ := Kd.R_form HO_6.out (by omega)
        (first | cases eo50 | (injection eo50 with ea_ en_ ec_; (first | subst ea_ | (injection ea_ with ea_; subst ea_)); subst ec_; clear en_))
        have GB50 := Aside0.mk gb50; have GG50 := Aside0.mk HG50; clear gb50 gl50 HG50
        obtain ⟨hx50_0, hf50_0⟩ := Kd.R_celln 0 HO_6.out (x20_1 : Int) p50 q50
        replace p50 := eq_true p50; replace q50 := eq_true q50
        have HP51 := Kd.R_putg HO_6.out (x20_1 : Int) (rd l1 x20_1)
        go_wp2_with (first | ((with_reducible refine gate_store (t := 2) (p := 55) rfl ?_); refine store_event (t := 2) (p := 55) (v := ?vo_w52) (w1 := (wr.setCell ⟨go50, (x20_1 : Int).toNat, none⟩ (.int .i64 (rd l1 x20_1)))) ?hg ?ho ?hn ?hr ?_; (case ho => rfl); (case hg => rfl); (case hn => rfl); (case hr => first | (go_simp; done) | (go_simp; rfl)); intro w52 hw; have hg : wr.grownBy w52 (some go50) := (by rw [hw]; exact HP51.2); have hp_ : Kd.R (Kd.int .i64) 2 w52 w.heap.size (fun k_ => some k_ ≠ (.slice Ao19 y161.length co19 : Value).ownBlock) (.slice (some ⟨go50, 0, none⟩) x6_2.length co15) y165 := (by rw [hw, Ny165.out]; exact HP51.1); clear HP51; replace HO_23 := Aside0.mk (Kd.R_after (v := (.slice (some ⟨go50, 0, none⟩) x6_2.length co15)) (v1 := (.slice (some ⟨go50, 0, none⟩) x6_2.length co15)) (ok := (fun _ => True)) (rM_ HO_23 (fun _ hk => ⟨trivial, hk⟩)) hg (.inl rfl)); replace BK153 := Aside0.mk (blk_grown (g := gb153) (o := .cells #[.int .i64 a0_0, .slice A0_1 l0_1.length c0_1, .slice A0_2 l0_2.length c0_2, .slice A0_3 l0_3.length c0_3] 30 (0, 0)) (bT_ BK153) hg (Kd.R_ne HO_6.out BK153.out (by decide))); replace HO_6 := Aside0.mk (hp_); replace HB := Aside0.mk ((by rw [hw]; exact below_set (HB.out) GB50.out : Below w.heap.size w w52)); clear hg hw hp_))
        (try simp only [← hl6_1, ← hl6_2])
        go_roundg k2
        case measure => have := HK1.out; have := HK2.out; omega
        case rel => exact ⟨(y165), (wrap64 (x20_1 + 1)), (by first | rfl | (simp; done) | (simp [*]; done)), H', ⟨by have := HK1.out; have := HK2.out; omega⟩, ⟨by (try simp only [hl6_1]); (try simp only [hl6_2]); (with_reducible repeat (first | apply Kd.R_alloc | apply Kd.R_drewN | apply Kd.R_drew)); exact Kd.R_mono HO_6.out (fun _ hk => trivial)⟩, ⟨by (try simp only [hl6_1]); (try simp only [hl6_2]); exact bT_ BK153⟩, ⟨sABelo_6⟩⟩
    ·rw [if_neg c16] at H
     have c16b0 := decide_eq_false c16
     have c16b0q := c16b0
     (try simp only [hl6_1] at c16b0q)
     clear c16
     obtain rfl := Option.some.inj H
     go_wp2
     go_ret
     exact ⟨by first | rfl | (simp [errW_none, errW_some] <;> rfl) | (simp [*, errW_none, errW_some] <;> rfl), sABelo_6⟩

/-! ### spec_l15Moved: function 35 -/
def spec_l15Moved.f (l0 : List Int) (a1 : Int) (a2 : Int) : Option (List Int) := (some (([] : List Int) : List Int)).bind fun y171 => (if y171.length + l0.length < 17592186044416 then ((some (y171 ++ l0 : List Int)).bind fun y174 => (if 0 ≤ a1 then (if a1 < (y174.length : Int) then (some (y174.set (a1 : Int).toNat (wrap64 ((rd y174 a1) + a2)))) else (none)) else (none))) else (none))
set_option maxHeartbeats 8000000 in
set_option maxRecDepth 100000 in
theorem spec_l15Moved.calls (A0 : Option Addr) (c0 : Nat) (l0 : List Int) (a1 : Int) (a2 : Int) (r : List Int) (w : World) (hr0 : Kd.C (Kd.int .i64) w A0 l0.length l0) (hc0 : l0.length ≤ c0) (h : spec_l15Moved.f l0 a1 a2 = some r) :
  Calls Try.prog 35 #[.slice A0 l0.length c0, .int .i64 a1, .int .i64 a2] w fun e w' => ∃ v0_ : Value, e = .returned (v0_) ∧ Kd.R (Kd.int .i64) 2 w' w.heap.size (fun _ => True) v0_ r ∧ Below w.heap.size w w' := by
 have HR0 := Aside0.mk hr0; have HC0 := Aside0.mk hc0; clear hr0 hc0
 have HB := Aside0.mk (Below.refl w.heap.size w)
 have H : ((some (([] : List Int) : List Int)).bind fun y171 => (if y171.length + l0.length < 17592186044416 then ((some (y171 ++ l0 : List Int)).bind fun y174 => (if 0 ≤ a1 then (if a1 < (y174.length : Int) then (some (y174.set (a1 : Int).toNat (wrap64 ((rd y174 a1) + a2)))) else (none)) else (none))) else (none))) = some r := h
 clear h
 obtain ⟨y171, hy171⟩ : ∃ y_ : List Int, y_ = (([] : List Int)) := ⟨_, rfl⟩
 replace H : (if y171.length + l0.length < 17592186044416 then ((some (y171 ++ l0 : List Int)).bind fun y174 => (if 0 ≤ a1 then (if a1 < (y174.length : Int) then (some (y174.set (a1 : Int).toNat (wrap64 ((rd y174 a1) + a2)))) else (none)) else (none))) else (none)) = some r := by first | (rw [hy171]; with_reducible exact H) | (have H2_ := (Option.bind_some _ _).symm.trans H; rw [hy171]; with_reducible exact H2_) | (have H2_ := (Option.bind_some _ _).symm.trans H; with_reducible exact H2_) | with_reducible exact H | (rw [hy171]; exact H) | exact H
 have Ny171 := Aside0.mk hy171; clear hy171
 obtain ⟨c4, H⟩ := ifS_ H
 have LMc4 := Aside0.mk c4; clear c4
 obtain ⟨y174, hy174⟩ : ∃ y_ : List Int, y_ = (y171 ++ l0) := ⟨_, rfl⟩
 replace H : (if 0 ≤ a1 then (if a1 < (y174.length : Int) then (some (y174.set (a1 : Int).toNat (wrap64 ((rd y174 a1) + a2)))) else (none)) else (none)) = some r := by first | (rw [hy174]; with_reducible exact H) | (have H2_ := (Option.bind_some _ _).symm.trans H; rw [hy174]; with_reducible exact H2_) | (have H2_ := (Option.bind_some _ _).symm.trans H; with_reducible exact H2_) | with_reducible exact H | (rw [hy174]; exact H) | exact H
 have Ny174 := Aside0.mk hy174; clear hy174
 obtain ⟨c5, H⟩ := ifS_ H
 have c5b0 : decide (0 ≤ a1) = true := decide_eq_true c5
 clear c5
 obtain ⟨c6, H⟩ := ifS_ H
 have c6b0 : decide (a1 < (y174.length : Int)) = true := decide_eq_true c6
 clear c6
 obtain ⟨y178, hy178⟩ : ∃ y_ : List Int, y_ = (y174.set (a1 : Int).toNat (wrap64 ((rd y174 a1) + a2))) := ⟨_, rfl⟩
 replace H : (some y178) = some r := by first | (rw [hy178]; with_reducible exact H) | (have H2_ := (Option.bind_some _ _).symm.trans H; rw [hy178]; with_reducible exact H2_) | (have H2_ := (Option.bind_some _ _).symm.trans H; with_reducible exact H2_) | with_reducible exact H | (rw [hy178]; exact H) | exact H
 have Ny178 := Aside0.mk hy178; clear hy178
 obtain rfl := Option.some.inj H
 go_enter Try.func35, Try.ntmps35
 go_wp2_with (first | ((with_reducible refine gate_dst (N := 8) rfl ?_); refine Kd.R_lit (Kd.int .i64) _ 2 ?hg (N := 8) ?hd (xs := ([] : List Int)) (inner := []) (ok := fun _ => True) (okp := fun _ => True) ?hr ?hp (fun _ hk => hk) trivial (Below.refl _ _) (Nat.le_refl _) (by simp) ?_; (case hd => rfl); (case hg => rfl); (case hr => first | (go_simp; done) | (go_simp; rfl)); (case hp => exact (Reps.none _ _)); intro v172 w8 ho9 hb hg_ hnew_; clear hg_ hnew_; (first | rw [← Ny171.out] at ho9 | (simp only [Int.reduceToNat] at ho9; rw [← Ny171.out] at ho9)); have HO173 := rL_ ho9 HB; replace HB := bS_ HB hb; clear hb ho9) | ((with_reducible refine gate_builtin (b := .append) (xs := #[.tmp 8, .tmp 9]) rfl ?_); at_builtin; refine Kd.R_append_rows (Kd.int .i64) (w0 := w) w.heap.size rfl (.tmp 8) (.tmp 9) 22 2 (.int .i64 0) 8 rfl Try.underlying22 info2 rfl (by decide) (by omega) v172 y171 l0 _ _ _ (fun _ => True) (fun _ => False) rfl rfl ?aO ?aR (fun _ _ h => h) (fun _ h => h.elim) ?aF ?aB ?aS ?aL ?_; (case aR => repeat (first | exact (Kd.C_below HR0.out HB.out) | (with_reducible refine Kd.C_alloc ?_ _) | (with_reducible refine Kd.C_drewN ?_ _) | (with_reducible refine Kd.C_drew ?_))); (case aB => exact sABelo_6); (case aF => exact (fun _ _ => trivial)); (case aO => exact (rT_ HO173)); (case aS => exact (below_size sABelo_6)); (case aL => have := LMc4.out; omega); intro v175 w10 ho hb hg hat; rw [← Ny174.out] at ho; replace HB := Aside0.mk (hb); have HO176 := Aside0.mk (ho); clear HO173; clear ho hb hg hat; obtain ⟨Ao11, co11, eo11⟩ := Kd.R_slice HO176.out; subst eo11; have p177 : 0 ≤ (a1 : Int) := dA_; have q177 : a1 < (y174.length : Int) := dA_; obtain ⟨ad177, e177, hx177_0⟩ := Kd.at_int (Kd.R_reads' HO176.out).2.2 a1 p177 q177; cases e177; replace p177 := eq_true p177; replace q177 := eq_true q177; have p7 : 0 ≤ (a1 : Int) := dA_; have q7 : (a1 : Int) < ((y174.length : Int) : Int) := dA_; obtain ⟨go7, co7, eo7, gb7, gl7, cl7, HG7⟩ := Kd.R_form HO176.out (by omega); (first | cases eo7 | (injection eo7 with ea_ en_ ec_; (first | subst ea_ | (injection ea_ with ea_; subst ea_)); subst ec_; clear en_)); have GB7 := Aside0.mk gb7; have GG7 := Aside0.mk HG7; clear gb7 gl7 HG7; (first | simp only [add_plain] at hx177_0 | skip); obtain ⟨hx7_0, hf7_0⟩ := Kd.R_celln 0 HO176.out (a1 : Int) p7 q7; replace p7 := eq_true p7; replace q7 := eq_true q7; obtain ⟨hy12_, hz12_⟩ := Kd.R_celln 0 HO176.out (a1 : Int) dA_ dA_; have HP12 := Kd.R_putg HO176.out (a1 : Int) (wrap64 ((rd y174 a1) + a2))) | ((with_reducible refine gate_store (t := 2) (p := 19) rfl ?_); refine store_event (t := 2) (p := 19) (v := ?vo_w13) (w1 := (w10.setCell ⟨go7, (a1 : Int).toNat, none⟩ (.int .i64 (wrap64 ((rd y174 a1) + a2))))) ?hg ?ho ?hn ?hr ?_; (case ho => rfl); (case hg => rfl); (case hn => rfl); (case hr => first | (go_simp; done) | (go_simp; rfl)); intro w13 hw; have hg : w10.grownBy w13 (some go7) := (by rw [hw]; exact HP12.2); have hp_ : Kd.R (Kd.int .i64) 2 w13 w.heap.size (fun _ => True) (.slice (some ⟨go7, 0, none⟩) y174.length co11) y178 := (by rw [hw, Ny178.out]; exact HP12.1); clear HP12; replace HO176 := Aside0.mk (hp_); replace HB := Aside0.mk ((by rw [hw]; exact below_set (HB.out) GB7.out : Below w.heap.size w w13)); clear hg hw hp_))
 go_ret
 exact ⟨_, by first | rfl | (simp [errW_none, errW_some] <;> rfl) | (simp [*, errW_none, errW_some] <;> rfl), by (with_reducible repeat (first | apply Kd.R_alloc | apply Kd.R_drewN | apply Kd.R_drew)); exact HO176.out, sABelo_6⟩

end Go.Proofs.Ytcjhbmjimjbphaa.QFnDescends
