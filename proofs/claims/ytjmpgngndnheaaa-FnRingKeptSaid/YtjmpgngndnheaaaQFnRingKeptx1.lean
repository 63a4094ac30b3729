-- Written by a program of this session out of the printer's texts and contracts of its own.
import Derived.Test.YtjmpgngndnheaaaQFnRingKeptx0
import Derived.Test.YtjmpgngndnheaaaSq
import Derived.RegionTactic
import Derived.ChangeAlike
namespace Go.Proofs.Ytjmpgngndnheaaa.QFnRingKept
open Go.Proofs.Ytjmpgngndnheaaa.Sq Go.RowKit Go.Proofs.YtjmpgngndnheaaaW.PrintWords Go.Proofs.YtjmpgngndnheaaaW.PrintLast Go.Proofs.YtjmpgngndnheaaaW.PrintMore
attribute [local go_sem] max2_int min2_int max_two min_two max_three min_three max_four min_four   -- for this text's walks alone
set_option linter.unusedVariables false
set_option linter.unusedSimpArgs false
theorem sABelo_1 {b : Nat} {w W : World} (h : Below b w W := by repeat (first | (with_reducible first | exact Aside0.out (by assumption) | apply below_alloc | apply pw_below_drewN | apply below_drew1 | refine below_set ?_ (Aside0.out (by assumption))) | exact Aside0.out (by assumption))) : Below b w W := h
theorem sAKept_1 {w W : World} {S : Nat → Prop} (h : Kept w W S := by repeat (first | (with_reducible first | exact Aside0.out (by assumption) | apply Kept.alloc | apply Kept.drewN | apply Kept.drew) | exact Aside0.out (by assumption))) : Kept w W S := h

/-! ### impl_in: function 29 -/
def impl_in.f (a0 : Int) (a1 : Int) (a2 : Int) : Option (Bool) := if a0 ≥ a1 then (some (decide (a0 ≤ a2))) else (some false)
set_option maxHeartbeats 8000000 in
set_option maxRecDepth 100000 in
theorem impl_in.calls (a0 : Int) (a1 : Int) (a2 : Int) (r : Bool) (w : World) (h : impl_in.f a0 a1 a2 = some r) :
  Calls Try.prog 29 #[.int .i64 a0, .int .i64 a1, .int .i64 a2] w fun e w' => e = .returned (.bool r) ∧ Drawn0 w w' := by
 have H : (if a0 ≥ a1 then (some (decide (a0 ≤ a2))) else (some false)) = some r := h
 clear h
 by_cases c4 : a0 ≥ a1
 ·rw [if_pos c4] at H
  have c4b0 : decide (a1 ≤ a0) = true := decide_eq_true c4
  clear c4
  obtain rfl := Option.some.inj H
  go_enter Try.func29, Try.ntmps29
  go_wp2
  go_ret
  exact ⟨by first | rfl | (simp; done) | (simp [*]; done), by repeat (first | exact Drawn0.refl _ | apply Drawn0.step)⟩
 ·rw [if_neg c4] at H
  have c4b0 : decide (a1 ≤ a0) = false := decide_eq_false c4
  clear c4
  obtain rfl := Option.some.inj H
  go_enter Try.func29, Try.ntmps29
  go_wp2
  go_ret
  exact ⟨by first | rfl | (simp; done) | (simp [*]; done), by repeat (first | exact Drawn0.refl _ | apply Drawn0.step)⟩

/-! ### impl_RingOk: function 22 -/
mutual
def impl_RingOk.j0 : Nat → Bool → List Int → List Int → Option (Bool)
 | 0, _, _, _ => none
 | k + 1, x19, x102000, x102001 => if x19 = true then (some false) else (impl_RingOk.l0 k 0 x102000 (x102000.length : Int) 0 x102000 x102001)
def impl_RingOk.l0 : Nat → Int → List Int → Int → Int → List Int → List Int → Option (Bool)
 | 0, _, _, _, _, _, _ => none
 | k + 1, x4, x21, x22, x23, x102000, x102001 => if x23 < x22 then (if 0 ≤ x23 then (if x23 < (x21.length : Int) then ((impl_in.f (rd x21 x23) 0 1000000000).bind fun t104 => (if t104 = true then (if x23 < (x102001.length : Int) then ((impl_in.f (rd x102001 x23) 0 (rd x21 x23)).bind fun t106 => (if t106 = true then (impl_RingOk.l0 k (wrap64 (x4 + (rd x21 x23))) x21 x22 (wrap64 (x23 + 1)) x102000 x102001) else (some false))) else (none)) else (some false))) else (none)) else (none)) else (some (decide (x4 ≤ 1000000000)))
end
def impl_RingOk.f (k : Nat) (l0_0 : List Int) (l0_1 : List Int) : Option (Bool) := (impl_in.f (l0_0.length : Int) 1 200).bind fun t102 => (if t102 = true then (impl_RingOk.j0 k ((l0_1.length : Int) != (l0_0.length : Int)) l0_0 l0_1) else (impl_RingOk.j0 k true l0_0 l0_1))
theorem impl_RingOk.mono_l : ∀ k, (∀ y0 y1 y2, LeO (impl_RingOk.j0 k y0 y1 y2) (impl_RingOk.j0 (k + 1) y0 y1 y2)) ∧ (∀ y0 y1 y2 y3 y4 y5, LeO (impl_RingOk.l0 k y0 y1 y2 y3 y4 y5) (impl_RingOk.l0 (k + 1) y0 y1 y2 y3 y4 y5))
 | 0 => ⟨fun _ _ _ r h => by simp [impl_RingOk.j0] at h, fun _ _ _ _ _ _ r h => by simp [impl_RingOk.l0] at h⟩
 | k + 1 => by
  obtain ⟨ih0, ih1⟩ := impl_RingOk.mono_l k
  refine ⟨?_, ?_⟩
  intro y0 y1 y2; unfold impl_RingOk.j0; rotate_left
  intro y0 y1 y2 y3 y4 y5; unfold impl_RingOk.l0; rotate_left
  all_goals repeat' first
  | (with_reducible exact ih0 _ _ _)
  | (with_reducible exact ih1 _ _ _ _ _ _)
  | (with_reducible exact LeO.refl _)
  | (with_reducible exact LeO.none _)
  | (with_reducible refine LeO.ite ?_ ?_)
  | (with_reducible refine LeO.bind ?_ (fun _ => ?_))
  | exact ih0 _ _ _
  | exact ih1 _ _ _ _ _ _
  | exact LeO.none _
  | refine LeO.ite ?_ ?_
  | refine LeO.bind ?_ (fun _ => ?_)
theorem impl_RingOk.mono : ∀ a0 a1 k, LeO (impl_RingOk.f k a0 a1) (impl_RingOk.f (k + 1) a0 a1) := by
 intro a0 a1 k
 obtain ⟨ih0, ih1⟩ := impl_RingOk.mono_l k
 unfold impl_RingOk.f
 repeat' first
   | (with_reducible exact ih0 _ _ _)
   | (with_reducible exact ih1 _ _ _ _ _ _)
   | (with_reducible exact LeO.refl _)
   | (with_reducible exact LeO.none _)
   | (with_reducible refine LeO.ite ?_ ?_)
   | (with_reducible refine LeO.bind ?_ (fun _ => ?_))
   | exact ih0 _ _ _
   | exact ih1 _ _ _ _ _ _
   | exact LeO.none _
   | refine LeO.ite ?_ ?_
   | refine LeO.bind ?_ (fun _ => ?_)
set_option maxHeartbeats 8000000 in
set_option maxRecDepth 100000 in
theorem impl_RingOk.calls (k : Nat) (A0_0 : Option Addr) (c0_0 : Nat) (l0_0 : List Int) (A0_1 : Option Addr) (c0_1 : Nat) (l0_1 : List Int) (r : Bool) (w : World) (hr0_0 : Kd.C (Kd.int .i64) w A0_0 l0_0.length l0_0) (hc0_0 : l0_0.length ≤ c0_0) (hr0_1 : Kd.C (Kd.int .i64) w A0_1 l0_1.length l0_1) (hc0_1 : l0_1.length ≤ c0_1) (h : impl_RingOk.f k l0_0 l0_1 = some r) :
  Calls Try.prog 22 #[.agg #[.slice A0_0 l0_0.length c0_0, .slice A0_1 l0_1.length c0_1]] w fun e w' => e = .returned (.bool r) ∧ Below w.heap.size w w' := by
 have hu26 := Try.underlying26; have HR0_0 := Aside0.mk hr0_0; have HC0_0 := Aside0.mk hc0_0; clear hr0_0 hc0_0; have HR0_1 := Aside0.mk hr0_1; have HC0_1 := Aside0.mk hc0_1; clear hr0_1 hc0_1
 have HB := Aside0.mk (Below.refl w.heap.size w)
 have H : ((impl_in.f (l0_0.length : Int) 1 200).bind fun t102 => (if t102 = true then (impl_RingOk.j0 k ((l0_1.length : Int) != (l0_0.length : Int)) l0_0 l0_1) else (impl_RingOk.j0 k true l0_0 l0_1))) = some r := h
 clear h; have HC2 := Aside0.mk H; clear H
 go_enter Try.func22, Try.ntmps22
 go_upto_region 2 with (first | ((with_reducible refine gate_dst (N := 1) rfl ?_); (try (refine gate_guard (by rfl) ?_; dsimp only)); refine box_event ?hg (N := 1) ?hd (cs := #[.slice A0_0 l0_0.length c0_0, .slice A0_1 l0_1.length c0_1]) (t := 26) ?hr ?_; (case hd => rfl); (case hg => rfl); (case hr => first | (go_simp; done) | (go_simp; rfl)); intro gb101 hg w3 hbox hb; have BK101 := Aside0.mk (hbox); have GW101 := gE_ HB hg; have GE101 := gE_ HB hg; replace HB := bS_ HB hb; clear hb hbox hg; have hcz4_0 : w3.cell? ⟨gb101, 0, none⟩ = some (.slice A0_0 l0_0.length c0_0) := (blk_cell BK101.out 0).trans rfl; have hcz4_1 : w3.cell? ⟨gb101, 1, none⟩ = some (.slice A0_1 l0_1.length c0_1) := (blk_cell BK101.out 1).trans rfl; have hfz4_0 := blk_frozen BK101.out 0; have hfz4_1 := blk_frozen BK101.out 1))
 (try simp only [Act.put, List.setIfInBounds_toArray, List.set_cons_zero, List.set_cons_succ])
 go_cut [19] (fun v19 wc => ∃ (kq : Nat) (x19_1 : Bool), v19 = .bool x19_1 ∧ Aside0 (impl_RingOk.j0 kq x19_1 l0_0 l0_1 = some r) ∧ Aside0 (kq ≤ k) ∧ Aside0 (wc.heap[gb101]? = some (.cells #[(.slice A0_0 l0_0.length c0_0), (.slice A0_1 l0_1.length c0_1)] 26 (0, 0))) ∧ Aside0 (Below w.heap.size w wc))
 case first =>
  have H := HC2.out; clear HC2; replace H := Option.bind_eq_some_iff.mp H
  obtain ⟨t102, A50, H⟩ := H
  replace H : (if t102 = true then (impl_RingOk.j0 k ((l0_1.length : Int) != (l0_0.length : Int)) l0_0 l0_1) else (impl_RingOk.j0 k true l0_0 l0_1)) = some r := H
  have A5 := Aside0.mk A50; clear A50
  by_cases c6 : t102 = true
  ·subst c6
   have H1 : (impl_RingOk.j0 k ((l0_1.length : Int) != (l0_0.length : Int)) l0_0 l0_1) = some r := by rw [if_pos rfl] at H; exact H
   clear H; have H := H1; clear H1; have H' := Aside0.mk H; clear H
   go_wp2_with (first | ((with_reducible refine gate_callee (f := 29) rfl ?_); refine gL_ (some 11) Try.func29 #[.int .i64 (l0_0.length : Int), .int .i64 1, .int .i64 200] ?_; (with_reducible refine (impl_in.calls (l0_0.length : Int) 1 200 true _ A5.out).mono ?_); rintro e w' ⟨rfl, ⟨nd, rfl⟩⟩; refine ⟨_, rfl, ?_⟩; have hcz7_0 : w3.cell? ⟨gb101, 0, none⟩ = some (.slice A0_0 l0_0.length c0_0) := (blk_cell BK101.out 0).trans rfl; have hcz7_1 : w3.cell? ⟨gb101, 1, none⟩ = some (.slice A0_1 l0_1.length c0_1) := (blk_cell BK101.out 1).trans rfl; have hfz7_0 := blk_frozen BK101.out 0; have hfz7_1 := blk_frozen BK101.out 1))
   go_meet
   case rel => exact ⟨_, (((l0_1.length : Int) != (l0_0.length : Int))), (by first | rfl | (simp; done) | (simp [*]; done)), H', ⟨by first | omega | exact Nat.le_refl _⟩, ⟨by exact bT_ BK101⟩, ⟨sABelo_1⟩⟩
  ·replace c6 := Bool.eq_false_iff.mpr c6
   subst c6
   have H1 : (impl_RingOk.j0 k true l0_0 l0_1) = some r := by rw [if_neg (show ¬ (false = true) by decide)] at H; exact H
   clear H; have H := H1; clear H1; have H' := Aside0.mk H; clear H
   go_wp2_with (first | ((with_reducible refine gate_callee (f := 29) rfl ?_); refine gL_ (some 11) Try.func29 #[.int .i64 (l0_0.length : Int), .int .i64 1, .int .i64 200] ?_; (with_reducible refine (impl_in.calls (l0_0.length : Int) 1 200 false _ A5.out).mono ?_); rintro e w' ⟨rfl, ⟨nd, rfl⟩⟩; refine ⟨_, rfl, ?_⟩))
   go_meet
   case rel => exact ⟨_, (true), (by first | rfl | (simp; done) | (simp [*]; done)), H', ⟨by first | omega | exact Nat.le_refl _⟩, ⟨by exact bT_ BK101⟩, ⟨sABelo_1⟩⟩
 case rest =>
  clear HC2; (try clear c2); (try clear p2); (try clear c6); (try clear hcz4_0); (try clear hcz4_1); (try clear hcz7_0); (try clear hcz7_1); (try clear hfz4_0); (try clear hfz4_1); (try clear hfz7_0); (try clear hfz7_1)
  obtain ⟨kq, x19_1, rfl, HA, HJ1, BK101, HB⟩ := hcut
  cases kq with
  | zero => exact absurd HA.out (by simp [impl_RingOk.j0])
  | succ kj1 =>
   have H := HA.out; clear HA
   simp only [impl_RingOk.j0] at H
   by_cases c8 : x19_1 = true
   ·subst c8
    have H1 : (some false) = some r := by rw [if_pos rfl] at H; exact H
    clear H; have H := H1; clear H1
    obtain rfl := Option.some.inj H
    go_wp2
    go_ret
    exact ⟨by first | rfl | (simp [errW_none, errW_some] <;> rfl) | (simp [*, errW_none, errW_some] <;> rfl), sABelo_1⟩
   ·replace c8 := Bool.eq_false_iff.mpr c8
    subst c8
    have H1 : (impl_RingOk.l0 kj1 0 l0_0 (l0_0.length : Int) 0 l0_0 l0_1) = some r := by rw [if_neg (show ¬ (false = true) by decide)] at H; exact H
    clear H; have H := H1; clear H1; have H' := Aside0.mk H; clear H
    have hcz9_0 : wc.cell? ⟨gb101, 0, none⟩ = some (.slice A0_0 l0_0.length c0_0) := (blk_cell BK101.out 0).trans rfl
    have hcz9_1 : wc.cell? ⟨gb101, 1, none⟩ = some (.slice A0_1 l0_1.length c0_1) := (blk_cell BK101.out 1).trans rfl
    have hfz9_0 := blk_frozen BK101.out 0; have hfz9_1 := blk_frozen BK101.out 1
    go_wp2
    go_loopg [4, 23] kj1 (fun kq v4 v23 w' => ∃ (x4_2 : Int) (x23_2 : Int), v4 = .int .i64 x4_2 ∧ v23 = .int .i64 x23_2 ∧ Aside0 (impl_RingOk.l0 kq x4_2 l0_0 (l0_0.length : Int) x23_2 l0_0 l0_1 = some r) ∧ Aside0 (kq ≤ kj1) ∧ Aside0 (w'.heap[gb101]? = some (.cells #[(.slice A0_0 l0_0.length c0_0), (.slice A0_1 l0_1.length c0_1)] 26 (0, 0))) ∧ Aside0 (Below w.heap.size w w'))
    case atStart => exact ⟨(0), (0), (by first | rfl | (simp; done) | (simp [*]; done)), (by first | rfl | (simp; done) | (simp [*]; done)), H', ⟨Nat.le_refl _⟩, ⟨by exact bT_ BK101⟩, ⟨sABelo_1⟩⟩
    case round =>
     clear H'; (try clear c2); (try clear p2); (try clear c6); (try clear c8); (try clear hcz4_0); (try clear hcz4_1); (try clear hcz7_0); (try clear hcz7_1); (try clear hcz9_0); (try clear hcz9_1); (try clear hfz4_0); (try clear hfz4_1); (try clear hfz7_0); (try clear hfz7_1); (try clear hfz9_0); (try clear hfz9_1); (try clear p2)
     obtain ⟨x4_2, x23_2, rfl, rfl, HA, HK2, BK101, HB⟩ := hrel
     cases gk with
     | zero => exact absurd HA.out (by simp [impl_RingOk.l0])
     | succ k2 =>
      have H := HA.out; clear HA
      simp only [impl_RingOk.l0] at H
      by_cases c10 : x23_2 < (l0_0.length : Int)
      ·rw [if_pos c10] at H
       have c10b0 : decide (x23_2 < (l0_0.length : Int)) = true := decide_eq_true c10
       clear c10
       obtain ⟨c11, H⟩ := ifS_ H
       have c11b0 : decide (0 ≤ x23_2) = true := decide_eq_true c11
       clear c11
       obtain ⟨c12, H⟩ := ifS_ H
       have c12b0 : decide (x23_2 < (l0_0.length : Int)) = true := decide_eq_true c12
       clear c12; replace H := Option.bind_eq_some_iff.mp H
       obtain ⟨t104, A130, H⟩ := H
       replace H : (if t104 = true then (if x23_2 < (l0_1.length : Int) then ((impl_in.f (rd l0_1 x23_2) 0 (rd l0_0 x23_2)).bind fun t106 => (if t106 = true then (impl_RingOk.l0 k2 (wrap64 (x4_2 + (rd l0_0 x23_2))) l0_0 (l0_0.length : Int) (wrap64 (x23_2 + 1)) l0_0 l0_1) else (some false))) else (none)) else (some false)) = some r := H
       have A13 := Aside0.mk A130; clear A130
       by_cases c14 : t104 = true
       ·subst c14
        have H1 : (if x23_2 < (l0_1.length : Int) then ((impl_in.f (rd l0_1 x23_2) 0 (rd l0_0 x23_2)).bind fun t106 => (if t106 = true then (impl_RingOk.l0 k2 (wrap64 (x4_2 + (rd l0_0 x23_2))) l0_0 (l0_0.length : Int) (wrap64 (x23_2 + 1)) l0_0 l0_1) else (some false))) else (none)) = some r := by rw [if_pos rfl] at H; exact H
        clear H; have H := H1; clear H1
        obtain ⟨c15, H⟩ := ifS_ H
        have c15b0 : decide (x23_2 < (l0_1.length : Int)) = true := decide_eq_true c15
        clear c15; replace H := Option.bind_eq_some_iff.mp H
        obtain ⟨t106, A160, H⟩ := H
        replace H : (if t106 = true then (impl_RingOk.l0 k2 (wrap64 (x4_2 + (rd l0_0 x23_2))) l0_0 (l0_0.length : Int) (wrap64 (x23_2 + 1)) l0_0 l0_1) else (some false)) = some r := H
        have A16 := Aside0.mk A160; clear A160
        by_cases c17 : t106 = true
        ·subst c17
         have H1 : (impl_RingOk.l0 k2 (wrap64 (x4_2 + (rd l0_0 x23_2))) l0_0 (l0_0.length : Int) (wrap64 (x23_2 + 1)) l0_0 l0_1) = some r := by rw [if_pos rfl] at H; exact H
         clear H; have H := H1; clear H1; have H' := Aside0.mk H; clear H
         have p103 : 0 ≤ (x23_2 : Int) := of_decide_eq_true (by first | (with_reducible assumption) | assumption)
         have q103 : x23_2 < (l0_0.length : Int) := of_decide_eq_true (by first | (with_reducible assumption) | assumption)
         obtain ⟨ad103, e103, hx103_0⟩ := Kd.at_int HR0_0.out x23_2 p103 q103
         cases e103
         replace hx103_0 := (HB.out.cell (World.block_lt_of_cell? w _ hx103_0)).trans hx103_0
         replace p103 := eq_true p103; replace q103 := eq_true q103
         go_wp2_with (first | ((with_reducible refine gate_callee (f := 29) rfl ?_); refine gL_ (some 29) Try.func29 #[.int .i64 (rd l0_0 x23_2), .int .i64 0, .int .i64 1000000000] ?_; (with_reducible refine (impl_in.calls (rd l0_0 x23_2) 0 1000000000 true _ A13.out).mono ?_); rintro e w' ⟨rfl, ⟨nd, rfl⟩⟩; refine ⟨_, rfl, ?_⟩; have hcz18_0 : wr.cell? ⟨gb101, 0, none⟩ = some (.slice (some ad103) l0_0.length c0_0) := (blk_cell BK101.out 0).trans rfl; have hcz18_1 : wr.cell? ⟨gb101, 1, none⟩ = some (.slice A0_1 l0_1.length c0_1) := (blk_cell BK101.out 1).trans rfl; have hfz18_0 := blk_frozen BK101.out 0; have hfz18_1 := blk_frozen BK101.out 1; have p105 : 0 ≤ (x23_2 : Int) := of_decide_eq_true (by first | (with_reducible assumption) | assumption); have q105 : x23_2 < (l0_1.length : Int) := of_decide_eq_true (by first | (with_reducible assumption) | assumption); obtain ⟨ad105, e105, hx105_0⟩ := Kd.at_int HR0_1.out x23_2 p105 q105; cases e105; replace hx105_0 := (HB.out.cell (World.block_lt_of_cell? w _ hx105_0)).trans hx105_0; replace p105 := eq_true p105; replace q105 := eq_true q105) | (go_at_call 29; (with_reducible refine (impl_in.calls (rd l0_1 x23_2) 0 (rd l0_0 x23_2) true _ A16.out).mono ?_); rintro e w' ⟨rfl, ⟨nd, rfl⟩⟩))
         go_roundg k2
         case measure => have := HJ1.out; have := HK2.out; omega
         case rel => exact ⟨(wrap64 (x4_2 + (rd l0_0 x23_2))), (wrap64 (x23_2 + 1)), (by first | rfl | (simp; done) | (simp [*]; done)), (by first | rfl | (simp; done) | (simp [*]; done)), H', ⟨by have := HJ1.out; have := HK2.out; omega⟩, ⟨by exact bT_ BK101⟩, ⟨sABelo_1⟩⟩
        ·replace c17 := Bool.eq_false_iff.mpr c17
         subst c17
         have H1 : (some false) = some r := by rw [if_neg (show ¬ (false = true) by decide)] at H; exact H
         clear H; have H := H1; clear H1
         obtain rfl := Option.some.inj H
         have p103 : 0 ≤ (x23_2 : Int) := of_decide_eq_true (by first | (with_reducible assumption) | assumption)
         have q103 : x23_2 < (l0_0.length : Int) := of_decide_eq_true (by first | (with_reducible assumption) | assumption)
         obtain ⟨ad103, e103, hx103_0⟩ := Kd.at_int HR0_0.out x23_2 p103 q103
         cases e103
         replace hx103_0 := (HB.out.cell (World.block_lt_of_cell? w _ hx103_0)).trans hx103_0
         replace p103 := eq_true p103; replace q103 := eq_true q103
         go_wp2_with (first | ((with_reducible refine gate_callee (f := 29) rfl ?_); refine gL_ (some 29) Try.func29 #[.int .i64 (rd l0_0 x23_2), .int .i64 0, .int .i64 1000000000] ?_; (with_reducible refine (impl_in.calls (rd l0_0 x23_2) 0 1000000000 true _ A13.out).mono ?_); rintro e w' ⟨rfl, ⟨nd, rfl⟩⟩; refine ⟨_, rfl, ?_⟩; have hcz19_0 : wr.cell? ⟨gb101, 0, none⟩ = some (.slice (some ad103) l0_0.length c0_0) := (blk_cell BK101.out 0).trans rfl; have hcz19_1 : wr.cell? ⟨gb101, 1, none⟩ = some (.slice A0_1 l0_1.length c0_1) := (blk_cell BK101.out 1).trans rfl; have hfz19_0 := blk_frozen BK101.out 0; have hfz19_1 := blk_frozen BK101.out 1; have p105 : 0 ≤ (x23_2 : Int) := of_decide_eq_true (by first | (with_reducible assumption) | assumption); have q105 : x23_2 < (l0_1.length : Int) := of_decide_eq_true (by first | (with_reducible assumption) | assumption); obtain ⟨ad105, e105, hx105_0⟩ := Kd.at_int HR0_1.out x23_2 p105 q105; cases e105; replace hx105_0 := (HB.out.cell (World.block_lt_of_cell? w _ hx105_0)).trans hx105_0; replace p105 := eq_true p105; replace q105 := eq_true q105) | (go_at_call 29; (with_reducible refine (impl_in.calls (rd l0_1 x23_2) 0 (rd l0_0 x23_2) false _ A16.out).mono ?_); rintro e w' ⟨rfl, ⟨nd, rfl⟩⟩))
         go_ret
         exact ⟨by first | rfl | (simp [errW_none, errW_some] <;> rfl) | (simp [*, errW_none, errW_some] <;> rfl), sABelo_1⟩
       ·replace c14 := Bool.eq_false_iff.mpr c14
        subst c14
        have H1 : (some false) = some r := by rw [if_neg (show ¬ (false = true) by decide)] at H; exact H
        clear H; have H := H1; clear H1
        obtain rfl := Option.some.inj H
        have p103 : 0 ≤ (x23_2 : Int) := of_decide_eq_true (by first | (with_reducible assumption) | assumption)
        have q103 : x23_2 < (l0_0.length : Int) := of_decide_eq_true (by first | (with_reducible assumption) | assumption)
        obtain ⟨ad103, e103, hx103_0⟩ := Kd.at_int HR0_0.out x23_2 p103 q103
        cases e103
        replace hx103_0 := (HB.out.cell (World.block_lt_of_cell? w _ hx103_0)).trans hx103_0
        replace p103 := eq_true p103; replace q103 := eq_true q103
        go_wp2_with (first | ((with_reducible refine gate_callee (f := 29) rfl ?_); refine gL_ (some 29) Try.func29 #[.int .i64 (rd l0_0 x23_2), .int .i64 0, .int .i64 1000000000] ?_; (with_reducible refine (impl_in.calls (rd l0_0 x23_2) 0 1000000000 false _ A13.out).mono ?_); rintro e w' ⟨rfl, ⟨nd, rfl⟩⟩; refine ⟨_, rfl, ?_⟩))
        go_ret
        exact ⟨by first | rfl | (simp [errW_none, errW_some] <;> rfl) | (simp [*, errW_none, errW_some] <;> rfl), sABelo_1⟩
      ·rw [if_neg c10] at H
       have c10b0 : decide (x23_2 < (l0_0.length : Int)) = false := decide_eq_false c10
       clear c10
       obtain rfl := Option.some.inj H
       go_wp2
       go_ret
       exact ⟨by first | rfl | (simp [errW_none, errW_some] <;> rfl) | (simp [*, errW_none, errW_some] <;> rfl), sABelo_1⟩

/-! ### impl_each: function 40 -/
def impl_each.l0 : Nat → Int → Int → List Int → Int → Int → Option (Bool)
 | 0, _, _, _, _, _ => none
 | k + 1, x2, x3, x15, x16, x17 => if x17 < x16 then (if 0 ≤ x17 then (if x17 < (x15.length : Int) then ((impl_in.f (rd x15 x17) x2 x3).bind fun t108 => (if t108 = true then (impl_each.l0 k x2 x3 x15 x16 (wrap64 (x17 + 1))) else (some false))) else (none)) else (none)) else (some true)
def impl_each.f (k : Nat) (l0 : List Int) (a1 : Int) (a2 : Int) (a3 : Int) : Option (Bool) := if (l0.length : Int) = a1 then (impl_each.l0 k a2 a3 l0 (l0.length : Int) 0) else (some false)
theorem impl_each.mono_l : ∀ k, (∀ y0 y1 y2 y3 y4, LeO (impl_each.l0 k y0 y1 y2 y3 y4) (impl_each.l0 (k + 1) y0 y1 y2 y3 y4))
 | 0 => fun _ _ _ _ _ r h => by simp [impl_each.l0] at h
 | k + 1 => by
  have ih0 := impl_each.mono_l k
  ·intro y0 y1 y2 y3 y4
   unfold impl_each.l0
   repeat' first
   | (with_reducible exact ih0 _ _ _ _ _)
   | (with_reducible exact LeO.refl _)
   | (with_reducible exact LeO.none _)
   | (with_reducible refine LeO.ite ?_ ?_)
   | (with_reducible refine LeO.bind ?_ (fun _ => ?_))
   | exact ih0 _ _ _ _ _
   | exact LeO.none _
   | refine LeO.ite ?_ ?_
   | refine LeO.bind ?_ (fun _ => ?_)
theorem impl_each.mono : ∀ a0 a1 a2 a3 k, LeO (impl_each.f k a0 a1 a2 a3) (impl_each.f (k + 1) a0 a1 a2 a3) := by
 intro a0 a1 a2 a3 k
 have ih0 := impl_each.mono_l k
 unfold impl_each.f
 repeat' first
   | (with_reducible exact ih0 _ _ _ _ _)
   | (with_reducible exact LeO.refl _)
   | (with_reducible exact LeO.none _)
   | (with_reducible refine LeO.ite ?_ ?_)
   | (with_reducible refine LeO.bind ?_ (fun _ => ?_))
   | exact ih0 _ _ _ _ _
   | exact LeO.none _
   | refine LeO.ite ?_ ?_
   | refine LeO.bind ?_ (fun _ => ?_)
set_option maxHeartbeats 8000000 in
set_option maxRecDepth 100000 in
theorem impl_each.calls (k : Nat) (A0 : Option Addr) (c0 : Nat) (l0 : List Int) (a1 : Int) (a2 : Int) (a3 : Int) (r : Bool) (w : World) (hr0 : Kd.C (Kd.int .i64) w A0 l0.length l0) (hc0 : l0.length ≤ c0) (h : impl_each.f k l0 a1 a2 a3 = some r) :
  Calls Try.prog 40 #[.slice A0 l0.length c0, .int .i64 a1, .int .i64 a2, .int .i64 a3] w fun e w' => e = .returned (.bool r) ∧ Drawn0 w w' := by
 have HR0 := Aside0.mk hr0; have HC0 := Aside0.mk hc0; clear hr0 hc0
 have H : (if (l0.length : Int) = a1 then (impl_each.l0 k a2 a3 l0 (l0.length : Int) 0) else (some false)) = some r := h
 clear h
 by_cases c5 : (l0.length : Int) = a1
 ·rw [if_pos c5] at H
  have c5b0 : ((l0.length : Int) == a1) = true := beq_iff_eq.mpr c5
  have c5b1 : ((l0.length : Int) != a1) = false := bne_eq_false_iff_eq.mpr c5
  clear c5; have H' := Aside0.mk H; clear H
  go_enter Try.func40, Try.ntmps40
  go_wp2
  go_loopg [17] k (fun kq v17 w' => ∃ (x17_1 : Int), v17 = .int .i64 x17_1 ∧ Aside0 (impl_each.l0 kq a2 a3 l0 (l0.length : Int) x17_1 = some r) ∧ Aside0 (kq ≤ k) ∧ Drawn0 w w')
  case atStart => exact ⟨(0), (by first | rfl | (simp; done) | (simp [*]; done)), H', ⟨Nat.le_refl _⟩, by repeat (first | exact Drawn0.refl _ | apply Drawn0.step)⟩
  case round =>
   clear H'; (try clear p2); (try clear c4); (try clear c5); (try clear c5b0); (try clear c5b1)
   obtain ⟨x17_1, rfl, HA, HK1, ⟨m1, rfl⟩⟩ := hrel
   cases gk with
   | zero => exact absurd HA.out (by simp [impl_each.l0])
   | succ k1 =>
    have H := HA.out; clear HA
    simp only [impl_each.l0] at H
    by_cases c6 : x17_1 < (l0.length : Int)
    ·rw [if_pos c6] at H
     have c6b0 : decide (x17_1 < (l0.length : Int)) = true := decide_eq_true c6
     clear c6
     obtain ⟨c7, H⟩ := ifS_ H
     have c7b0 : decide (0 ≤ x17_1) = true := decide_eq_true c7
     clear c7
     obtain ⟨c8, H⟩ := ifS_ H
     have c8b0 : decide (x17_1 < (l0.length : Int)) = true := decide_eq_true c8
     clear c8; replace H := Option.bind_eq_some_iff.mp H
     obtain ⟨t108, A90, H⟩ := H
     replace H : (if t108 = true then (impl_each.l0 k1 a2 a3 l0 (l0.length : Int) (wrap64 (x17_1 + 1))) else (some false)) = some r := H
     have A9 := Aside0.mk A90; clear A90
     by_cases c10 : t108 = true
     ·subst c10
      have H1 : (impl_each.l0 k1 a2 a3 l0 (l0.length : Int) (wrap64 (x17_1 + 1))) = some r := by rw [if_pos rfl] at H; exact H
      clear H; have H := H1; clear H1; have H' := Aside0.mk H; clear H
      have p107 : 0 ≤ (x17_1 : Int) := of_decide_eq_true (by first | (with_reducible assumption) | assumption)
      have q107 : x17_1 < (l0.length : Int) := of_decide_eq_true (by first | (with_reducible assumption) | assumption)
      obtain ⟨ad107, e107, hx107_0⟩ := Kd.at_int HR0.out x17_1 p107 q107
      cases e107
      replace p107 := eq_true p107; replace q107 := eq_true q107
      go_wp2_with (first | ((with_reducible refine gate_callee (f := 29) rfl ?_); refine gL_ (some 24) Try.func29 #[.int .i64 (rd l0 x17_1), .int .i64 a2, .int .i64 a3] ?_; (with_reducible refine (impl_in.calls (rd l0 x17_1) a2 a3 true _ A9.out).mono ?_); rintro e w' ⟨rfl, ⟨nd, rfl⟩⟩; refine ⟨_, rfl, ?_⟩))
      go_roundg k1
      case measure => have := HK1.out; omega
      case rel => exact ⟨(wrap64 (x17_1 + 1)), (by first | rfl | (simp; done) | (simp [*]; done)), H', ⟨by have := HK1.out; omega⟩, by repeat (first | exact Drawn0.refl _ | apply Drawn0.step)⟩
     ·replace c10 := Bool.eq_false_iff.mpr c10
      subst c10
      have H1 : (some false) = some r := by rw [if_neg (show ¬ (false = true) by decide)] at H; exact H
      clear H; have H := H1; clear H1
      obtain rfl := Option.some.inj H
      have p107 : 0 ≤ (x17_1 : Int) := of_decide_eq_true (by first | (with_reducible assumption) | assumption)
      have q107 : x17_1 < (l0.length : Int) := of_decide_eq_true (by first | (with_reducible assumption) | assumption)
      obtain ⟨ad107, e107, hx107_0⟩ := Kd.at_int HR0.out x17_1 p107 q107
      cases e107
      replace p107 := eq_true p107; replace q107 := eq_true q107
      go_wp2_with (first | ((with_reducible refine gate_callee (f := 29) rfl ?_); refine gL_ (some 24) Try.func29 #[.int .i64 (rd l0 x17_1), .int .i64 a2, .int .i64 a3] ?_; (with_reducible refine (impl_in.calls (rd l0 x17_1) a2 a3 false _ A9.out).mono ?_); rintro e w' ⟨rfl, ⟨nd, rfl⟩⟩; refine ⟨_, rfl, ?_⟩))
      go_ret
      exact ⟨by first | rfl | (simp; done) | (simp [*]; done), by repeat (first | exact Drawn0.refl _ | apply Drawn0.step)⟩
    ·rw [if_neg c6] at H
     have c6b0 : decide (x17_1 < (l0.length : Int)) = false := decide_eq_false c6
     clear c6
     obtain rfl := Option.some.inj H
     go_wp2
     go_ret
     exact ⟨by first | rfl | (simp; done) | (simp [*]; done), by repeat (first | exact Drawn0.refl _ | apply Drawn0.step)⟩
 ·rw [if_neg c5] at H
  have c5b0 : ((l0.length : Int) == a1) = false := beq_eq_false_iff_ne.mpr c5
  have c5b1 : ((l0.length : Int) != a1) = true := bne_iff_ne.mpr c5
  obtain rfl := Option.some.inj H
  go_enter Try.func40, Try.ntmps40
  go_wp2
  go_ret
  exact ⟨by first | rfl | (simp; done) | (simp [*]; done), by repeat (first | exact Drawn0.refl _ | apply Drawn0.step)⟩

/-! ### impl_windsOk: function 28 -/
def impl_windsOk.f (k : Nat) (l0_0 : List Int) (l0_1 : List Int) (l1 : List Int) : Option (Bool) := (impl_RingOk.f k l0_0 l0_1).bind fun t110 => (if t110 = true then ((impl_each.f k l1 (l0_0.length : Int) (-128) 128).bind fun t111 => (some t111)) else (some false))
theorem impl_windsOk.mono : ∀ a0 a1 a2 k, LeO (impl_windsOk.f k a0 a1 a2) (impl_windsOk.f (k + 1) a0 a1 a2) := by
 intro a0 a1 a2 k
 unfold impl_windsOk.f
 repeat' first
   | (with_reducible exact impl_RingOk.mono _ _ _)
   | (with_reducible exact impl_each.mono _ _ _ _ _)
   | (with_reducible exact LeO.refl _)
   | (with_reducible exact LeO.none _)
   | (with_reducible refine LeO.ite ?_ ?_)
   | (with_reducible refine LeO.bind ?_ (fun _ => ?_))
   | exact impl_RingOk.mono _ _ _
   | exact impl_each.mono _ _ _ _ _
   | exact LeO.none _
   | refine LeO.ite ?_ ?_
   | refine LeO.bind ?_ (fun _ => ?_)
set_option maxHeartbeats 8000000 in
set_option maxRecDepth 100000 in
theorem impl_windsOk.calls (k : Nat) (A0_0 : Option Addr) (c0_0 : Nat) (l0_0 : List Int) (A0_1 : Option Addr) (c0_1 : Nat) (l0_1 : List Int) (A1 : Option Addr) (c1 : Nat) (l1 : List Int) (r : Bool) (w : World) (hr0_0 : Kd.C (Kd.int .i64) w A0_0 l0_0.length l0_0) (hc0_0 : l0_0.length ≤ c0_0) (hr0_1 : Kd.C (Kd.int .i64) w A0_1 l0_1.length l0_1) (hc0_1 : l0_1.length ≤ c0_1) (hr1 : Kd.C (Kd.int .i64) w A1 l1.length l1) (hc1 : l1.length ≤ c1) (h : impl_windsOk.f k l0_0 l0_1 l1 = some r) :
  Calls Try.prog 28 #[.agg #[.slice A0_0 l0_0.length c0_0, .slice A0_1 l0_1.length c0_1], .slice A1 l1.length c1] w fun e w' => e = .returned (.bool r) ∧ Below w.heap.size w w' := by
 have hu26 := Try.underlying26; have HR0_0 := Aside0.mk hr0_0; have HC0_0 := Aside0.mk hc0_0; clear hr0_0 hc0_0; have HR0_1 := Aside0.mk hr0_1; have HC0_1 := Aside0.mk hc0_1; clear hr0_1 hc0_1; have HR1 := Aside0.mk hr1; have HC1 := Aside0.mk hc1; clear hr1 hc1
 have HB := Aside0.mk (Below.refl w.heap.size w)
 have H : ((impl_RingOk.f k l0_0 l0_1).bind fun t110 => (if t110 = true then ((impl_each.f k l1 (l0_0.length : Int) (-128) 128).bind fun t111 => (some t111)) else (some false))) = some r := h
 clear h; replace H := Option.bind_eq_some_iff.mp H
 obtain ⟨t110, A30, H⟩ := H
 replace H : (if t110 = true then ((impl_each.f k l1 (l0_0.length : Int) (-128) 128).bind fun t111 => (some t111)) else (some false)) = some r := H
 have A3 := Aside0.mk A30; clear A30
 by_cases c4 : t110 = true
 ·subst c4
  have H1 : ((impl_each.f k l1 (l0_0.length : Int) (-128) 128).bind fun t111 => (some t111)) = some r := by rw [if_pos rfl] at H; exact H
  clear H; have H := H1; clear H1; replace H := Option.bind_eq_some_iff.mp H
  obtain ⟨t111, A50, H⟩ := H
  replace H : (some t111) = some r := H
  have A5 := Aside0.mk A50; clear A50
  obtain rfl := Option.some.inj H
  go_enter Try.func28, Try.ntmps28
  go_wp2_with (first | ((with_reducible refine gate_dst (N := 2) rfl ?_); (try (refine gate_guard (by rfl) ?_; dsimp only)); refine box_event ?hg (N := 2) ?hd (cs := #[.slice A0_0 l0_0.length c0_0, .slice A0_1 l0_1.length c0_1]) (t := 26) ?hr ?_; (case hd => rfl); (case hg => rfl); (case hr => first | (go_simp; done) | (go_simp; rfl)); intro gb109 hg w6 hbox hb; have BK109 := Aside0.mk (hbox); have GW109 := gE_ HB hg; have GE109 := gE_ HB hg; replace HB := bS_ HB hb; clear hb hbox hg; have hcz7_0 : w6.cell? ⟨gb109, 0, none⟩ = some (.slice A0_0 l0_0.length c0_0) := (blk_cell BK109.out 0).trans rfl; have hcz7_1 : w6.cell? ⟨gb109, 1, none⟩ = some (.slice A0_1 l0_1.length c0_1) := (blk_cell BK109.out 1).trans rfl; have hfz7_0 := blk_frozen BK109.out 0; have hfz7_1 := blk_frozen BK109.out 1) | ((with_reducible refine gate_callee (f := 22) rfl ?_); refine gL_ (some 6) Try.func22 #[.agg #[.slice A0_0 l0_0.length c0_0, .slice A0_1 l0_1.length c0_1]] ?_; (with_reducible refine (impl_RingOk.calls k _ _ l0_0 _ _ l0_1 true _ ?side1 ?side2 ?side3 ?side4 A3.out).mono ?_); (case side1 => exact cB_ HR0_0 HB); (case side2 => exact HC0_0.out); (case side3 => exact cB_ HR0_1 HB); (case side4 => exact HC0_1.out); rintro e w8 ⟨rfl, hb⟩; refine ⟨_, rfl, ?_⟩; replace BK109 := bB_ BK109 hb; replace HB := bS_ HB hb; (try clear hb); (try clear hb2); (try clear hk); (try clear hi); have hcz9_0 : w8.cell? ⟨gb109, 0, none⟩ = some (.slice A0_0 l0_0.length c0_0) := (blk_cell BK109.out 0).trans rfl; have hcz9_1 : w8.cell? ⟨gb109, 1, none⟩ = some (.slice A0_1 l0_1.length c0_1) := (blk_cell BK109.out 1).trans rfl; have hfz9_0 := blk_frozen BK109.out 0; have hfz9_1 := blk_frozen BK109.out 1) | (go_at_call 40; (with_reducible refine (impl_each.calls k _ _ l1 (l0_0.length : Int) (-128) 128 t111 _ ?side1 ?side2 A5.out).mono ?_); (case side1 => exact cB_ HR1 HB); (case side2 => exact HC1.out); rintro e w' ⟨rfl, ⟨nd, rfl⟩⟩))
  go_ret
  exact ⟨by first | rfl | (simp [errW_none, errW_some] <;> rfl) | (simp [*, errW_none, errW_some] <;> rfl), sABelo_1⟩
 ·replace c4 := Bool.eq_false_iff.mpr c4
  subst c4
  have H1 : (some false) = some r := by rw [if_neg (show ¬ (false = true) by decide)] at H; exact H
  clear H; have H := H1; clear H1
  obtain rfl := Option.some.inj H
  go_enter Try.func28, Try.ntmps28
  go_wp2_with (first | ((with_reducible refine gate_dst (N := 2) rfl ?_); (try (refine gate_guard (by rfl) ?_; dsimp only)); refine box_event ?hg (N := 2) ?hd (cs := #[.slice A0_0 l0_0.length c0_0, .slice A0_1 l0_1.length c0_1]) (t := 26) ?hr ?_; (case hd => rfl); (case hg => rfl); (case hr => first | (go_simp; done) | (go_simp; rfl)); intro gb109 hg w10 hbox hb; have BK109 := Aside0.mk (hbox); have GW109 := gE_ HB hg; have GE109 := gE_ HB hg; replace HB := bS_ HB hb; clear hb hbox hg; have hcz11_0 : w10.cell? ⟨gb109, 0, none⟩ = some (.slice A0_0 l0_0.length c0_0) := (blk_cell BK109.out 0).trans rfl; have hcz11_1 : w10.cell? ⟨gb109, 1, none⟩ = some (.slice A0_1 l0_1.length c0_1) := (blk_cell BK109.out 1).trans rfl; have hfz11_0 := blk_frozen BK109.out 0; have hfz11_1 := blk_frozen BK109.out 1) | ((with_reducible refine gate_callee (f := 22) rfl ?_); refine gL_ (some 6) Try.func22 #[.agg #[.slice A0_0 l0_0.length c0_0, .slice A0_1 l0_1.length c0_1]] ?_; (with_reducible refine (impl_RingOk.calls k _ _ l0_0 _ _ l0_1 false _ ?side1 ?side2 ?side3 ?side4 A3.out).mono ?_); (case side1 => exact cB_ HR0_0 HB); (case side2 => exact HC0_0.out); (case side3 => exact cB_ HR0_1 HB); (case side4 => exact HC0_1.out); rintro e w12 ⟨rfl, hb⟩; refine ⟨_, rfl, ?_⟩; replace BK109 := bB_ BK109 hb; replace HB := bS_ HB hb; (try clear hb); (try clear hb2); (try clear hk); (try clear hi)))
  go_ret
  exact ⟨by first | rfl | (simp [errW_none, errW_some] <;> rfl) | (simp [*, errW_none, errW_some] <;> rfl), sABelo_1⟩


/-! ### slices_Clone_int64_int64: function 32 -/
def slices_Clone_int64_int64.f (l0 : List Int) : Option (List Int) := if l0.length < 17592186044416 then some l0 else none
set_option maxHeartbeats 8000000 in
set_option maxRecDepth 100000 in
theorem slices_Clone_int64_int64.calls (A0 : Option Addr) (c0 : Nat) (l0 : List Int) (r : List Int) (w : World) (hr0 : Kd.C (Kd.int .i64) w A0 l0.length l0) (hc0 : l0.length ≤ c0) (h : slices_Clone_int64_int64.f l0 = some r) :
  Calls Try.prog 32 #[.slice A0 l0.length c0] w fun e w' => ∃ v0_ : Value, e = .returned (v0_) ∧ Kd.R (Kd.int .i64) 2 w' w.heap.size (fun _ => True) v0_ r ∧ Below w.heap.size w w' := by
 unfold slices_Clone_int64_int64.f at h
 by_cases c4 : l0.length < 17592186044416
 ·rw [if_pos c4] at h
  obtain rfl := Option.some.inj h
  clear h; have LM := Aside0.mk c4; clear c4; have HR0 := Aside0.mk hr0; have HC0 := Aside0.mk hc0; clear hr0 hc0
  have HB := Aside0.mk (Below.refl w.heap.size w)
  have hq : ∀ (W : World) (a : Option Addr) (m c : Nat), (binOp .eql 22 (.slice a m c) (.slice none 0 0)).run Try.prog W = .ok (.bool a.isNone) W := fun W a m c => Lib.run_eql_slice_nil W 22 2 a m c 0 0 Try.underlying22
  cases A0 with
  | none =>
   have hl : l0 = [] := by
    rcases Nat.eq_zero_or_pos l0.length with h | h
    ·exact List.eq_nil_of_length_eq_zero h
    ·obtain ⟨ad, e, _⟩ := HR0.out.2.2 h
     cases e
   subst hl
   clear HR0 HC0 LM
   go_enter Try.func32, Try.ntmps32
   go_wp2
   go_ret
   exact ⟨_, rfl, Kd.R_nil _ _ _ _ _, sABelo_1⟩
  | some a0 =>
   obtain ⟨y1, hy1⟩ : ∃ y_ : List Int, y_ = ([] : List Int) := ⟨_, rfl⟩
   obtain ⟨y2, hy2⟩ : ∃ y_ : List Int, y_ = y1 ++ l0 := ⟨_, rfl⟩
   have e2 : y2 = l0 := by rw [hy2, hy1]; rfl
   have LM2 : Aside0 (y1.length + l0.length < 17592186044416) := Aside0.mk (by rw [hy1]; simpa using LM.out)
   have Ny1 := Aside0.mk hy1; have Ny2 := Aside0.mk hy2; have Ne2 := Aside0.mk e2; clear hy1 hy2 e2
   have hg : Calls Try.prog 32 #[.slice (some a0) l0.length c0] w (fun e w' => ∃ v0_ : Value, e = .returned (v0_) ∧ Kd.R (Kd.int .i64) 2 w' w.heap.size (fun _ => True) v0_ y2 ∧ Below w.heap.size w w') := by
    go_enter Try.func32, Try.ntmps32
    go_wp2_with (first | ((with_reducible refine gate_dst (N := 5) rfl ?_); refine Kd.R_lit (Kd.int .i64) _ 2 ?hg (N := 5) ?hd (xs := ([] : List Int)) (inner := []) (ok := fun _ => True) (okp := fun _ => True) ?hr ?hp (fun _ hk => hk) trivial (Below.refl _ _) (Nat.le_refl _) (by simp) ?_; (case hd => rfl); (case hg => rfl); (case hr => first | (go_simp; done) | (go_simp; rfl)); (case hp => exact (Reps.none _ _)); intro v1 w8 ho9 hb hg_ hnew_; clear hg_ hnew_; rw [← Ny1.out] at ho9; have HO1 := rL_ ho9 HB; replace HB := bS_ HB hb; clear hb ho9) | ((with_reducible refine gate_builtin (b := .append) (xs := #[.tmp 5, .tmp 6]) rfl ?_); at_builtin; refine Kd.R_append_rows (Kd.int .i64) (w0 := w) w.heap.size rfl (.tmp 5) (.tmp 6) 22 2 (.int .i64 0) 8 rfl Try.underlying22 info2 rfl (by decide) (by omega) v1 y1 l0 _ _ _ (fun _ => True) (fun _ => False) rfl rfl ?aO ?aR (fun _ _ h => h) (fun _ h => h.elim) ?aF ?aB ?aS ?aL ?_; (case aR => repeat (first | exact (Kd.C_below HR0.out HB.out) | (with_reducible refine Kd.C_alloc ?_ _) | (with_reducible refine Kd.C_drewN ?_ _) | (with_reducible refine Kd.C_drew ?_))); (case aB => exact sABelo_1); (case aF => exact (fun _ _ => trivial)); (case aO => exact (rT_ HO1)); (case aS => exact (below_size sABelo_1)); (case aL => have := LM2.out; omega); intro v2 w10 ho hb hg hat; rw [← Ny2.out] at ho; replace HB := Aside0.mk (hb); have HO2 := Aside0.mk (ho); clear HO1; clear ho hb hg hat; obtain ⟨Ao11, co11, eo11⟩ := Kd.R_slice HO2.out; subst eo11))
    go_ret
    exact ⟨_, rfl, by (with_reducible repeat (first | apply Kd.R_alloc | apply Kd.R_drewN | apply Kd.R_drew)); exact HO2.out, sABelo_1⟩
   exact hg.mono fun e w' ⟨v, h1, h2, h3⟩ => ⟨v, h1, by rw [← Ne2.out]; exact h2, h3⟩
 ·rw [if_neg c4] at h
  exact absurd h (by simp)

/-! ### impl_advect_1: function 41 -/
def impl_advect_1.f (a0 : Int) (a1 : Int) (l2_0 : List Int) (l2_1 : List Int) (a3 : Int) (a4 : Int) (a5 : Int) (l6_0 : List Int) (l6_1 : List Int) : Option (Int × Int × List Int × List Int) := if a0 ≤ 0 then (some (a4, a5, l6_0, l6_1)) else (if 0 ≤ a3 then (if a3 < (l2_0.length : Int) then (if a4 > 0 then (if a4 = 0 then (none) else (if a3 < (l6_0.length : Int) then ((some (l6_0.set (a3 : Int).toNat (wrap64 ((rd l6_0 a3) - (wrap64 (Int.tdiv (wrap64 ((rd l2_0 a3) * a0)) 256)))) : List Int)).bind fun y116 => (if a3 < (l6_1.length : Int) then ((some (l6_1.set (a3 : Int).toNat (wrap64 ((rd l6_1 a3) - (wrap64 (Int.tdiv (wrap64 (a5 * (wrap64 (Int.tdiv (wrap64 ((rd l2_0 a3) * a0)) 256)))) a4)))) : List Int)).bind fun y118 => (if 0 ≤ a1 then (if a1 < (l6_0.length : Int) then (if a1 < (l6_1.length : Int) then (some (wrap64 (a4 - (wrap64 (Int.tdiv (wrap64 ((rd l2_0 a3) * a0)) 256))), wrap64 (a5 - (wrap64 (Int.tdiv (wrap64 (a5 * (wrap64 (Int.tdiv (wrap64 ((rd l2_0 a3) * a0)) 256)))) a4))), (y116.set (a1 : Int).toNat (wrap64 ((rd y116 a1) + (wrap64 (Int.tdiv (wrap64 ((rd l2_0 a3) * a0)) 256))))), (y118.set (a1 : Int).toNat (wrap64 ((rd y118 a1) + (wrap64 (Int.tdiv (wrap64 (a5 * (wrap64 (Int.tdiv (wrap64 ((rd l2_0 a3) * a0)) 256)))) a4))))))) else (none)) else (none)) else (none))) else (none))) else (none))) else (if a3 < (l6_0.length : Int) then ((some (l6_0.set (a3 : Int).toNat (wrap64 ((rd l6_0 a3) - (wrap64 (Int.tdiv (wrap64 ((rd l2_0 a3) * a0)) 256)))) : List Int)).bind fun y124 => (if a3 < (l6_1.length : Int) then ((some (l6_1.set (a3 : Int).toNat (wrap64 ((rd l6_1 a3) - 0)) : List Int)).bind fun y126 => (if 0 ≤ a1 then (if a1 < (l6_0.length : Int) then (if a1 < (l6_1.length : Int) then (some (wrap64 (a4 - (wrap64 (Int.tdiv (wrap64 ((rd l2_0 a3) * a0)) 256))), wrap64 (a5 - 0), (y124.set (a1 : Int).toNat (wrap64 ((rd y124 a1) + (wrap64 (Int.tdiv (wrap64 ((rd l2_0 a3) * a0)) 256))))), (y126.set (a1 : Int).toNat (wrap64 ((rd y126 a1) + 0))))) else (none)) else (none)) else (none))) else (none))) else (none))) else (none)) else (none))
theorem r_far2 {α : Type} {d : Kd α} {e : Nat} {w : World} {base : Nat} {ok : Nat → Prop} {v : Value} {xs : List α} (hE : d.E = []) (h : d.R e w base ok v xs) {g j : Nat} (hne : some g ≠ v.ownBlock) (u : Value) : d.R e (w.setCell ⟨g, j, none⟩ u) base ok v xs :=
 Kd.R_reok hE (Kd.R_far (p := ⟨g, j, none⟩) (Kd.R_tight hE h) (fun k hk e => hne (by rw [← hk, e])) u) (fun k e => h.1 k e)
set_option maxHeartbeats 8000000 in
set_option maxRecDepth 100000 in
theorem impl_advect_1.calls (a0 : Int) (a1 : Int) (A2_0 : Option Addr) (c2_0 : Nat) (l2_0 : List Int) (A2_1 : Option Addr) (c2_1 : Nat) (l2_1 : List Int) (a3 : Int) (a4 : Int) (a5 : Int) (P6_0_ : Nat → Prop) (u9000_ : Value) (l6_0 : List Int) (P6_1_ : Nat → Prop) (u9001_ : Value) (l6_1 : List Int) (r1 : Int) (r2 : Int) (r3 : List Int) (r4 : List Int) (w0 w : World) (gb112 gc gm gt gb113 : Nat) (hB : Below w0.heap.size w0 w) (hr2_0 : Kd.C (Kd.int .i64) w A2_0 l2_0.length l2_0) (ho6_0 : Kd.R (Kd.int .i64) 2 w w0.heap.size P6_0_ u9000_ l6_0) (hp6_0_6_1 : ∀ k_, P6_0_ k_ → ¬ P6_1_ k_) (ho6_1 : Kd.R (Kd.int .i64) 2 w w0.heap.size P6_1_ u9001_ l6_1) (hp6_1_6_0 : ∀ k_, P6_1_ k_ → ¬ P6_0_ k_)
 (bk1 : w.heap[gb112]? = some (.cells #[.slice A2_0 l2_0.length c2_0, .slice A2_1 l2_1.length c2_1] 26 (0, 0))) (bkc : w.heap[gc]? = some (.cells #[.int .i64 a3] 3 (0, 0))) (bkm : w.heap[gm]? = some (.cells #[.int .i64 a4] 2 (0, 0))) (bkt : w.heap[gt]? = some (.cells #[.int .i64 a5] 2 (0, 0))) (bk2 : w.heap[gb113]? = some (.cells #[u9000_, u9001_] 26 (0, 0)))
 (hmt : gm ≠ gt) (hm0 : some gm ≠ u9000_.ownBlock) (hm1 : some gm ≠ u9001_.ownBlock) (ht0 : some gt ≠ u9000_.ownBlock) (ht1 : some gt ≠ u9001_.ownBlock) (gem : w0.heap.size ≤ gm) (get_ : w0.heap.size ≤ gt)
 (h : impl_advect_1.f a0 a1 l2_0 l2_1 a3 a4 a5 l6_0 l6_1 = some (r1, r2, r3, r4)) :
  Calls Try.prog 41 #[.int .i64 a0, .int .i64 a1, .pointer (some ⟨gb112, 0, none⟩), .pointer (some ⟨gc, 0, none⟩), .pointer (some ⟨gm, 0, none⟩), .pointer (some ⟨gt, 0, none⟩), .pointer (some ⟨gb113, 0, none⟩)] w fun e w' => e = .returned (.tuple #[]) ∧ Kd.R (Kd.int .i64) 2 w' w0.heap.size (fun k_ => ((P6_0_ k_ ∨ P6_1_ k_) ∨ w.heap.size ≤ k_)) u9000_ r3 ∧ Kd.R (Kd.int .i64) 2 w' w0.heap.size (fun k_ => ((P6_0_ k_ ∨ P6_1_ k_) ∨ w.heap.size ≤ k_)) u9001_ r4 ∧ w'.heap[gm]? = some (.cells #[.int .i64 r1] 2 (0, 0)) ∧ w'.heap[gt]? = some (.cells #[.int .i64 r2] 2 (0, 0)) ∧ Below w0.heap.size w0 w' ∧ Kept w w' (fun k_ => (P6_0_ k_ ∨ P6_1_ k_) ∨ (k_ = gm ∨ k_ = gt)) := by
 have hu26 := Try.underlying26; have BK112 := Aside0.mk bk1; have BK113 := Aside0.mk bk2; have BKC := Aside0.mk bkc; have BKM := Aside0.mk bkm; have BKT := Aside0.mk bkt; have HMT := Aside0.mk hmt; have HM0 := Aside0.mk hm0; have HM1 := Aside0.mk hm1; have HT0 := Aside0.mk ht0; have HT1 := Aside0.mk ht1; have GEM := Aside0.mk gem; have GET := Aside0.mk get_; have HR2_0 := Aside0.mk hr2_0; clear bk1 bk2 bkc bkm bkt hmt hm0 hm1 ht0 ht1 gem get_ hr2_0
 have HO6_0 := Aside0.mk (show Kd.R (Kd.int .i64) 2 w w0.heap.size (fun k_ => ((P6_0_ k_ ∨ P6_1_ k_) ∨ w.heap.size ≤ k_) ∧ some k_ ≠ (u9001_ : Value).ownBlock) u9000_ l6_0 from Kd.R_mono ho6_0 (fun k_ hk => ⟨(.inl (.inl hk)), fun e_ => hp6_0_6_1 k_ hk (ho6_1.1 k_ e_.symm)⟩))
 have HO6_1 := Aside0.mk (show Kd.R (Kd.int .i64) 2 w w0.heap.size (fun k_ => ((P6_0_ k_ ∨ P6_1_ k_) ∨ w.heap.size ≤ k_) ∧ some k_ ≠ (u9000_ : Value).ownBlock) u9001_ l6_1 from Kd.R_mono ho6_1 (fun k_ hk => ⟨(.inl (.inr hk)), fun e_ => hp6_1_6_0 k_ hk (ho6_0.1 k_ e_.symm)⟩))
 have HK := Aside0.mk (Kept.refl w (fun k_ => (P6_0_ k_ ∨ P6_1_ k_) ∨ (k_ = gm ∨ k_ = gt)))
 have HW0 := Aside0.mk hB.size; have HB := Aside0.mk hB; clear hB
 have H : (if a0 ≤ 0 then (some (a4, a5, l6_0, l6_1)) else (if 0 ≤ a3 then (if a3 < (l2_0.length : Int) then (if a4 > 0 then (if a4 = 0 then (none) else (if a3 < (l6_0.length : Int) then ((some (l6_0.set (a3 : Int).toNat (wrap64 ((rd l6_0 a3) - (wrap64 (Int.tdiv (wrap64 ((rd l2_0 a3) * a0)) 256)))) : List Int)).bind fun y116 => (if a3 < (l6_1.length : Int) then ((some (l6_1.set (a3 : Int).toNat (wrap64 ((rd l6_1 a3) - (wrap64 (Int.tdiv (wrap64 (a5 * (wrap64 (Int.tdiv (wrap64 ((rd l2_0 a3) * a0)) 256)))) a4)))) : List Int)).bind fun y118 => (if 0 ≤ a1 then (if a1 < (l6_0.length : Int) then (if a1 < (l6_1.length : Int) then (some (wrap64 (a4 - (wrap64 (Int.tdiv (wrap64 ((rd l2_0 a3) * a0)) 256))), wrap64 (a5 - (wrap64 (Int.tdiv (wrap64 (a5 * (wrap64 (Int.tdiv (wrap64 ((rd l2_0 a3) * a0)) 256)))) a4))), (y116.set (a1 : Int).toNat (wrap64 ((rd y116 a1) + (wrap64 (Int.tdiv (wrap64 ((rd l2_0 a3) * a0)) 256))))), (y118.set (a1 : Int).toNat (wrap64 ((rd y118 a1) + (wrap64 (Int.tdiv (wrap64 (a5 * (wrap64 (Int.tdiv (wrap64 ((rd l2_0 a3) * a0)) 256)))) a4))))))) else (none)) else (none)) else (none))) else (none))) else (none))) else (if a3 < (l6_0.length : Int) then ((some (l6_0.set (a3 : Int).toNat (wrap64 ((rd l6_0 a3) - (wrap64 (Int.tdiv (wrap64 ((rd l2_0 a3) * a0)) 256)))) : List Int)).bind fun y124 => (if a3 < (l6_1.length : Int) then ((some (l6_1.set (a3 : Int).toNat (wrap64 ((rd l6_1 a3) - 0)) : List Int)).bind fun y126 => (if 0 ≤ a1 then (if a1 < (l6_0.length : Int) then (if a1 < (l6_1.length : Int) then (some (wrap64 (a4 - (wrap64 (Int.tdiv (wrap64 ((rd l2_0 a3) * a0)) 256))), wrap64 (a5 - 0), (y124.set (a1 : Int).toNat (wrap64 ((rd y124 a1) + (wrap64 (Int.tdiv (wrap64 ((rd l2_0 a3) * a0)) 256))))), (y126.set (a1 : Int).toNat (wrap64 ((rd y126 a1) + 0))))) else (none)) else (none)) else (none))) else (none))) else (none))) else (none)) else (none))) = some (r1, r2, r3, r4) := h
 clear h
 by_cases c8 : a0 ≤ 0
 ·rw [if_pos c8] at H
  have c8b0 : decide (a0 ≤ 0) = true := decide_eq_true c8
  clear c8
  simp only [Option.some.injEq, Prod.mk.injEq] at H
  obtain ⟨rfl, rfl, rfl, rfl⟩ := H
  have hcw0 : w.cell? ⟨gc, 0, none⟩ = some (.int .i64 a3) := (blk_cell BKC.out 0).trans rfl
  go_enter Try.func41, Try.ntmps41
  go_wp2
  first | (refine bodyPost_ret (results_none rfl _ _ _) rfl ?_) | go_end0
  exact ⟨rfl, Kd.R_mono HO6_0.out (fun _ hk => hk.1), Kd.R_mono HO6_1.out (fun _ hk => hk.1), BKM.out, by first | exact BKT.out | simpa only [Int.sub_zero] using BKT.out, HB.out, HK.out⟩
 ·rw [if_neg c8] at H
  have c8b0 : decide (a0 ≤ 0) = false := decide_eq_false c8
  clear c8
  obtain ⟨c13, H⟩ := ifS_ H
  have c13b0 : decide (0 ≤ a3) = true := decide_eq_true c13
  clear c13
  obtain ⟨c14, H⟩ := ifS_ H
  have c14b0 : decide (a3 < (l2_0.length : Int)) = true := decide_eq_true c14
  clear c14
  by_cases c15 : a4 > 0
  ·rw [if_pos c15] at H
   have c15b0 : decide (0 < a4) = true := decide_eq_true c15
   clear c15
   by_cases c16 : a4 = 0
   ·rw [if_pos c16] at H
    exact absurd H (by simp)
   ·rw [if_neg c16] at H
    have c16b0 : (a4 == 0) = false := beq_eq_false_iff_ne.mpr c16
    have c16b1 : (a4 != 0) = true := bne_iff_ne.mpr c16
    obtain ⟨c17, H⟩ := ifS_ H
    have c17b0 : decide (a3 < (l6_0.length : Int)) = true := decide_eq_true c17
    clear c17
    obtain ⟨y116, hy116⟩ : ∃ y_ : List Int, y_ = (l6_0.set (a3 : Int).toNat (wrap64 ((rd l6_0 a3) - (wrap64 (Int.tdiv (wrap64 ((rd l2_0 a3) * a0)) 256))))) := ⟨_, rfl⟩
    replace H : (if a3 < (l6_1.length : Int) then ((some (l6_1.set (a3 : Int).toNat (wrap64 ((rd l6_1 a3) - (wrap64 (Int.tdiv (wrap64 (a5 * (wrap64 (Int.tdiv (wrap64 ((rd l2_0 a3) * a0)) 256)))) a4)))) : List Int)).bind fun y118 => (if 0 ≤ a1 then (if a1 < (l6_0.length : Int) then (if a1 < (l6_1.length : Int) then (some (wrap64 (a4 - (wrap64 (Int.tdiv (wrap64 ((rd l2_0 a3) * a0)) 256))), wrap64 (a5 - (wrap64 (Int.tdiv (wrap64 (a5 * (wrap64 (Int.tdiv (wrap64 ((rd l2_0 a3) * a0)) 256)))) a4))), (y116.set (a1 : Int).toNat (wrap64 ((rd y116 a1) + (wrap64 (Int.tdiv (wrap64 ((rd l2_0 a3) * a0)) 256))))), (y118.set (a1 : Int).toNat (wrap64 ((rd y118 a1) + (wrap64 (Int.tdiv (wrap64 (a5 * (wrap64 (Int.tdiv (wrap64 ((rd l2_0 a3) * a0)) 256)))) a4))))))) else (none)) else (none)) else (none))) else (none)) = some (r1, r2, r3, r4) := by first | (rw [hy116]; with_reducible exact H) | (have H2_ := (Option.bind_some _ _).symm.trans H; rw [hy116]; with_reducible exact H2_) | (have H2_ := (Option.bind_some _ _).symm.trans H; with_reducible exact H2_) | with_reducible exact H | (rw [hy116]; exact H) | exact H
    have Ny116 := Aside0.mk hy116; clear hy116
    obtain ⟨c19, H⟩ := ifS_ H
    have c19b0 : decide (a3 < (l6_1.length : Int)) = true := decide_eq_true c19
    clear c19
    obtain ⟨y118, hy118⟩ : ∃ y_ : List Int, y_ = (l6_1.set (a3 : Int).toNat (wrap64 ((rd l6_1 a3) - (wrap64 (Int.tdiv (wrap64 (a5 * (wrap64 (Int.tdiv (wrap64 ((rd l2_0 a3) * a0)) 256)))) a4))))) := ⟨_, rfl⟩
    replace H : (if 0 ≤ a1 then (if a1 < (l6_0.length : Int) then (if a1 < (l6_1.length : Int) then (some (wrap64 (a4 - (wrap64 (Int.tdiv (wrap64 ((rd l2_0 a3) * a0)) 256))), wrap64 (a5 - (wrap64 (Int.tdiv (wrap64 (a5 * (wrap64 (Int.tdiv (wrap64 ((rd l2_0 a3) * a0)) 256)))) a4))), (y116.set (a1 : Int).toNat (wrap64 ((rd y116 a1) + (wrap64 (Int.tdiv (wrap64 ((rd l2_0 a3) * a0)) 256))))), (y118.set (a1 : Int).toNat (wrap64 ((rd y118 a1) + (wrap64 (Int.tdiv (wrap64 (a5 * (wrap64 (Int.tdiv (wrap64 ((rd l2_0 a3) * a0)) 256)))) a4))))))) else (none)) else (none)) else (none)) = some (r1, r2, r3, r4) := by first | (rw [hy118]; with_reducible exact H) | (have H2_ := (Option.bind_some _ _).symm.trans H; rw [hy118]; with_reducible exact H2_) | (have H2_ := (Option.bind_some _ _).symm.trans H; with_reducible exact H2_) | with_reducible exact H | (rw [hy118]; exact H) | exact H
    have Ny118 := Aside0.mk hy118; clear hy118
    obtain ⟨c21, H⟩ := ifS_ H
    have c21b0 : decide (0 ≤ a1) = true := decide_eq_true c21
    clear c21
    obtain ⟨c22, H⟩ := ifS_ H
    have c22b0 : decide (a1 < (l6_0.length : Int)) = true := decide_eq_true c22
    clear c22
    obtain ⟨y120, hy120⟩ : ∃ y_ : List Int, y_ = (y116.set (a1 : Int).toNat (wrap64 ((rd y116 a1) + (wrap64 (Int.tdiv (wrap64 ((rd l2_0 a3) * a0)) 256))))) := ⟨_, rfl⟩
    replace H : (if a1 < (l6_1.length : Int) then (some (wrap64 (a4 - (wrap64 (Int.tdiv (wrap64 ((rd l2_0 a3) * a0)) 256))), wrap64 (a5 - (wrap64 (Int.tdiv (wrap64 (a5 * (wrap64 (Int.tdiv (wrap64 ((rd l2_0 a3) * a0)) 256)))) a4))), y120, (y118.set (a1 : Int).toNat (wrap64 ((rd y118 a1) + (wrap64 (Int.tdiv (wrap64 (a5 * (wrap64 (Int.tdiv (wrap64 ((rd l2_0 a3) * a0)) 256)))) a4))))))) else (none)) = some (r1, r2, r3, r4) := by first | (rw [hy120]; with_reducible exact H) | (have H2_ := (Option.bind_some _ _).symm.trans H; rw [hy120]; with_reducible exact H2_) | (have H2_ := (Option.bind_some _ _).symm.trans H; with_reducible exact H2_) | with_reducible exact H | (rw [hy120]; exact H) | exact H
    have Ny120 := Aside0.mk hy120; clear hy120
    obtain ⟨c24, H⟩ := ifS_ H
    have c24b0 : decide (a1 < (l6_1.length : Int)) = true := decide_eq_true c24
    clear c24
    obtain ⟨y122, hy122⟩ : ∃ y_ : List Int, y_ = (y118.set (a1 : Int).toNat (wrap64 ((rd y118 a1) + (wrap64 (Int.tdiv (wrap64 (a5 * (wrap64 (Int.tdiv (wrap64 ((rd l2_0 a3) * a0)) 256)))) a4))))) := ⟨_, rfl⟩
    replace H : (some (wrap64 (a4 - (wrap64 (Int.tdiv (wrap64 ((rd l2_0 a3) * a0)) 256))), wrap64 (a5 - (wrap64 (Int.tdiv (wrap64 (a5 * (wrap64 (Int.tdiv (wrap64 ((rd l2_0 a3) * a0)) 256)))) a4))), y120, y122)) = some (r1, r2, r3, r4) := by first | (rw [hy122]; with_reducible exact H) | (have H2_ := (Option.bind_some _ _).symm.trans H; rw [hy122]; with_reducible exact H2_) | (have H2_ := (Option.bind_some _ _).symm.trans H; with_reducible exact H2_) | with_reducible exact H | (rw [hy122]; exact H) | exact H
    have Ny122 := Aside0.mk hy122; clear hy122
    simp only [Option.some.injEq, Prod.mk.injEq] at H
    obtain ⟨rfl, rfl, rfl, rfl⟩ := H
    obtain ⟨Ao27, co27, eo27⟩ := Kd.R_slice HO6_0.out
    subst eo27
    obtain ⟨Ao28, co28, eo28⟩ := Kd.R_slice HO6_1.out
    subst eo28
    have hq1 : w.cell? ⟨gb112, 0, none⟩ = some (.slice A2_0 l2_0.length c2_0) := (blk_cell BK112.out 0).trans rfl
    have hqc : w.cell? ⟨gc, 0, none⟩ = some (.int .i64 a3) := (blk_cell BKC.out 0).trans rfl
    have hqm : w.cell? ⟨gm, 0, none⟩ = some (.int .i64 a4) := (blk_cell BKM.out 0).trans rfl
    have hqt : w.cell? ⟨gt, 0, none⟩ = some (.int .i64 a5) := (blk_cell BKT.out 0).trans rfl
    have hfm := blk_frozen BKM.out 0; have hft := blk_frozen BKT.out 0; have hmt_ := HMT.out; have htm_ := Ne.symm HMT.out
    have p114 : 0 ≤ (a3 : Int) := of_decide_eq_true (by first | (with_reducible assumption) | assumption)
    have q114 : a3 < (l2_0.length : Int) := of_decide_eq_true (by first | (with_reducible assumption) | assumption)
    obtain ⟨ad114, e114, hx114_0⟩ := Kd.at_int HR2_0.out a3 p114 q114
    cases e114
    replace p114 := eq_true p114; replace q114 := eq_true q114
    go_enter Try.func41, Try.ntmps41
    go_wp2
    go_region
    generalize hw29 : World.drew (World.setCell (World.setCell w ⟨gm, 0, none⟩ (.int .i64 (wrap64 (a4 - (wrap64 (Int.tdiv (wrap64 ((rd l2_0 a3) * a0)) 256)))))) ⟨gt, 0, none⟩ (.int .i64 (wrap64 (a5 - (wrap64 (Int.tdiv (wrap64 (a5 * (wrap64 (Int.tdiv (wrap64 ((rd l2_0 a3) * a0)) 256)))) a4)))))) = w29
    have n1_ : Aside0 (w29.heap[gb112]? = some (.cells #[.slice (some ad114) l2_0.length c2_0, .slice A2_1 l2_1.length c2_1] 26 (0, 0))) := ⟨by rw [← hw29]; exact blk_drew (blk_far (blk_far BK112.out (blk_ne BK112.out BKM.out (by decide)) _) (blk_ne BK112.out BKT.out (by decide)) _)⟩
    have n2_ : Aside0 (w29.heap[gb113]? = some (.cells #[.slice Ao27 l6_0.length co27, .slice Ao28 l6_1.length co28] 26 (0, 0))) := ⟨by rw [← hw29]; exact blk_drew (blk_far (blk_far BK113.out (blk_ne BK113.out BKM.out (by decide)) _) (blk_ne BK113.out BKT.out (by decide)) _)⟩
    have n3_ : Aside0 (w29.heap[gc]? = some (.cells #[.int .i64 a3] 3 (0, 0))) := ⟨by rw [← hw29]; exact blk_drew (blk_far (blk_far BKC.out (blk_ne BKC.out BKM.out (by decide)) _) (blk_ne BKC.out BKT.out (by decide)) _)⟩
    have n4_ : Aside0 (w29.heap[gm]? = some (.cells #[.int .i64 (wrap64 (a4 - (wrap64 (Int.tdiv (wrap64 ((rd l2_0 a3) * a0)) 256))))] 2 (0, 0))) := ⟨by rw [← hw29]; exact blk_drew (blk_far (blk_put (cs := #[.int .i64 a4]) BKM.out 0 _ rfl) HMT.out _)⟩
    have n5_ : Aside0 (w29.heap[gt]? = some (.cells #[.int .i64 (wrap64 (a5 - (wrap64 (Int.tdiv (wrap64 (a5 * (wrap64 (Int.tdiv (wrap64 ((rd l2_0 a3) * a0)) 256)))) a4))))] 2 (0, 0))) := ⟨by rw [← hw29]; (try rw [Int.sub_zero]); exact blk_drew (blk_put (cs := #[.int .i64 a5]) (blk_far BKT.out (Ne.symm HMT.out) _) 0 _ rfl)⟩
    have n6_ : Aside0 (Kd.R (Kd.int .i64) 2 w29 w0.heap.size (fun k_ => ((P6_0_ k_ ∨ P6_1_ k_) ∨ w.heap.size ≤ k_) ∧ some k_ ≠ (.slice Ao28 l6_1.length co28 : Value).ownBlock) (.slice Ao27 l6_0.length co27) l6_0) := ⟨by rw [← hw29]; exact Kd.R_drew (r_far2 rfl (r_far2 rfl HO6_0.out HM0.out _) HT0.out _)⟩
    have n7_ : Aside0 (Kd.R (Kd.int .i64) 2 w29 w0.heap.size (fun k_ => ((P6_0_ k_ ∨ P6_1_ k_) ∨ w.heap.size ≤ k_) ∧ some k_ ≠ (.slice Ao27 l6_0.length co27 : Value).ownBlock) (.slice Ao28 l6_1.length co28) l6_1) := ⟨by rw [← hw29]; exact Kd.R_drew (r_far2 rfl (r_far2 rfl HO6_1.out HM1.out _) HT1.out _)⟩
    have n8_ : Aside0 (Below w0.heap.size w0 w29) := ⟨by rw [← hw29]; exact below_drew1 (below_set (below_set HB.out GEM.out) GET.out)⟩
    have n9_ : Aside0 (Kept w w29 (fun k_ => (P6_0_ k_ ∨ P6_1_ k_) ∨ (k_ = gm ∨ k_ = gt))) := ⟨by rw [← hw29]; exact Kept.drew (Kept.setCell (Kept.setCell HK.out (.inl (.inr (.inl rfl))) _) (.inl (.inr (.inr rfl))) _)⟩
    clear BK112 BK113 BKC BKM BKT HO6_0 HO6_1 HB HK hw29
    have BK112 := n1_; have BK113 := n2_; have BKC := n3_; have BKM := n4_; have BKT := n5_; have HO6_0 := n6_; have HO6_1 := n7_; have HB := n8_; have HK := n9_; clear n1_ n2_ n3_ n4_ n5_ n6_ n7_ n8_ n9_ hq1 hqc hqm hqt hfm hft hx114_0
    have hqc : w29.cell? ⟨gc, 0, none⟩ = some (.int .i64 a3) := (blk_cell BKC.out 0).trans rfl
    have hcz32_0 : w29.cell? ⟨gb113, 0, none⟩ = some (.slice Ao27 l6_0.length co27) := (blk_cell BK113.out 0).trans rfl
    have hcz32_1 : w29.cell? ⟨gb113, 1, none⟩ = some (.slice Ao28 l6_1.length co28) := (blk_cell BK113.out 1).trans rfl
    have hfz32_0 := blk_frozen BK113.out 0; have hfz32_1 := blk_frozen BK113.out 1
    have p115 : 0 ≤ (a3 : Int) := of_decide_eq_true (by first | (with_reducible assumption) | assumption)
    have q115 : a3 < (l6_0.length : Int) := of_decide_eq_true (by first | (with_reducible assumption) | assumption)
    obtain ⟨ad115, e115, hx115_0⟩ := Kd.at_int (Kd.R_reads' HO6_0.out).2.2 a3 p115 q115
    cases e115
    replace p115 := eq_true p115; replace q115 := eq_true q115
    have p18 : 0 ≤ (a3 : Int) := of_decide_eq_true (by first | (with_reducible assumption) | assumption)
    have q18 : (a3 : Int) < ((l6_0.length : Int) : Int) := of_decide_eq_true (by first | (with_reducible assumption) | assumption)
    obtain ⟨go18, co18, eo18, gb18, gl18, cl18, HG18⟩ := Kd.R_form HO6_0.out (by omega)
    (first | cases eo18 | (injection eo18 with ea_ en_ ec_; (first | subst ea_ | (injection ea_ with ea_; subst ea_)); subst ec_; clear en_))
    have GB18 := Aside0.mk gb18; have GG18 := Aside0.mk HG18; clear gb18 gl18 HG18
    have HMgo18 := Aside0.mk (show ((P6_0_ go18 ∨ P6_1_ go18) ∨ w.heap.size ≤ go18) from (HO6_0.out.1 _ rfl).1)
    (first | simp only [add_plain] at hx115_0 | skip)
    obtain ⟨hx18_0, hf18_0⟩ := Kd.R_celln 0 HO6_0.out (a3 : Int) p18 q18
    replace p18 := eq_true p18; replace q18 := eq_true q18
    obtain ⟨hy33_, hz33_⟩ := Kd.R_celln 0 HO6_0.out (a3 : Int) (of_decide_eq_true (by first | (with_reducible assumption) | assumption)) (of_decide_eq_true (by first | (with_reducible assumption) | assumption))
    have HP33 := Kd.R_putg HO6_0.out (a3 : Int) (wrap64 ((rd l6_0 a3) - (wrap64 (Int.tdiv (wrap64 ((rd l2_0 a3) * a0)) 256))))
    go_wp2_with (first | ((with_reducible refine gate_store (t := 2) (p := 41) rfl ?_); refine store_event (t := 2) (p := 41) (v := ?vo_w34) (w1 := (w29.setCell ⟨go18, (a3 : Int).toNat, none⟩ (.int .i64 (wrap64 ((rd l6_0 a3) - (wrap64 (Int.tdiv (wrap64 ((rd l2_0 a3) * a0)) 256))))))) ?hg ?ho ?hn ?hr ?_; (case ho => rfl); (case hg => rfl); (case hn => rfl); (case hr => first | (go_simp; done) | (go_simp; rfl)); intro w34 hw; have hg : w29.grownBy w34 (some go18) := (by rw [hw]; exact HP33.2); have hp_ : Kd.R (Kd.int .i64) 2 w34 w0.heap.size (fun k_ => ((P6_0_ k_ ∨ P6_1_ k_) ∨ w.heap.size ≤ k_) ∧ some k_ ≠ (.slice Ao28 l6_1.length co28 : Value).ownBlock) (.slice (some ⟨go18, 0, none⟩) l6_0.length co27) y116 := (by rw [hw, Ny116.out]; exact HP33.1); clear HP33; have n0_ := Aside0.mk (hp_); have n1_ := Aside0.mk (Kd.R_after (v := (.slice (some ⟨go18, 0, none⟩) l6_0.length co27)) (v1 := (.slice (some ⟨go18, 0, none⟩) l6_0.length co27)) (ok := (fun k_ => ((P6_0_ k_ ∨ P6_1_ k_) ∨ w.heap.size ≤ k_))) (rT_ HO6_1) hg (.inl rfl)); have n2_ := Aside0.mk (blk_grown (g := gb112) (o := .cells #[.slice (some ad114) l2_0.length c2_0, .slice A2_1 l2_1.length c2_1] 26 (0, 0)) (bT_ BK112) hg (Kd.R_ne HO6_0.out BK112.out (by decide))); have n3_ := Aside0.mk (blk_grown (g := gb113) (o := .cells #[.slice (some ⟨go18, 0, none⟩) l6_0.length co27, .slice Ao28 l6_1.length co28] 26 (0, 0)) (bT_ BK113) hg (Kd.R_ne HO6_0.out BK113.out (by decide))); have n4_ := Aside0.mk ((by rw [hw]; exact below_set (HB.out) GB18.out : Below w0.heap.size w0 w34)); have n5_ := Aside0.mk (Kept.of_grown (S := (fun k_ => (P6_0_ k_ ∨ P6_1_ k_) ∨ (k_ = gm ∨ k_ = gt))) hg sAKept_1 (fun k_ e_ => (HO6_0.out.1 k_ e_).1.imp_left .inl)); have nc_ := Aside0.mk (blk_grown BKC.out hg (Kd.R_ne HO6_0.out BKC.out (by decide))); have nm_ := Aside0.mk (blk_grown BKM.out hg HM0.out); have nt_ := Aside0.mk (blk_grown BKT.out hg HT0.out); clear BKC BKM BKT; have BKC := nc_; have BKM := nm_; have BKT := nt_; clear nc_ nm_ nt_; have hqc : w34.cell? ⟨gc, 0, none⟩ = some (.int .i64 a3) := (blk_cell BKC.out 0).trans rfl; clear HO6_0; clear HO6_1; clear BK112; clear BK113; clear HB; clear HK; have HO6_0 := n0_; have HO6_1 := n1_; have BK112 := n2_; have BK113 := n3_; have HB := n4_; have HK := n5_; clear n0_ n1_ n2_ n3_ n4_ n5_; clear hg hw hp_; have hcz35_0 : w34.cell? ⟨gb113, 0, none⟩ = some (.slice (some ⟨go18, 0, none⟩) l6_0.length co27) := (blk_cell BK113.out 0).trans rfl; have hcz35_1 : w34.cell? ⟨gb113, 1, none⟩ = some (.slice Ao28 l6_1.length co28) := (blk_cell BK113.out 1).trans rfl; have hfz35_0 := blk_frozen BK113.out 0; have hfz35_1 := blk_frozen BK113.out 1; have p117 : 0 ≤ (a3 : Int) := of_decide_eq_true (by first | (with_reducible assumption) | assumption); have q117 : a3 < (l6_1.length : Int) := of_decide_eq_true (by first | (with_reducible assumption) | assumption); obtain ⟨ad117, e117, hx117_0⟩ := Kd.at_int (Kd.R_reads' HO6_1.out).2.2 a3 p117 q117; cases e117; replace p117 := eq_true p117; replace q117 := eq_true q117; have p20 : 0 ≤ (a3 : Int) := of_decide_eq_true (by first | (with_reducible assumption) | assumption); have q20 : (a3 : Int) < ((l6_1.length : Int) : Int) := of_decide_eq_true (by first | (with_reducible assumption) | assumption); obtain ⟨go20, co20, eo20, gb20, gl20, cl20, HG20⟩ := Kd.R_form HO6_1.out (by omega); (first | cases eo20 | (injection eo20 with ea_ en_ ec_; (first | subst ea_ | (injection ea_ with ea_; subst ea_)); subst ec_; clear en_)); have GB20 := Aside0.mk gb20; have GG20 := Aside0.mk HG20; clear gb20 gl20 HG20; have HMgo20 := Aside0.mk (show ((P6_0_ go20 ∨ P6_1_ go20) ∨ w.heap.size ≤ go20) from (HO6_1.out.1 _ rfl).1); (first | simp only [add_plain] at hx117_0 | skip); obtain ⟨hx20_0, hf20_0⟩ := Kd.R_celln 0 HO6_1.out (a3 : Int) p20 q20; replace p20 := eq_true p20; replace q20 := eq_true q20; obtain ⟨hy36_, hz36_⟩ := Kd.R_celln 0 HO6_1.out (a3 : Int) (of_decide_eq_true (by first | (with_reducible assumption) | assumption)) (of_decide_eq_true (by first | (with_reducible assumption) | assumption)); have HP36 := Kd.R_putg HO6_1.out (a3 : Int) (wrap64 ((rd l6_1 a3) - (wrap64 (Int.tdiv (wrap64 (a5 * (wrap64 (Int.tdiv (wrap64 ((rd l2_0 a3) * a0)) 256)))) a4))))) | ((with_reducible refine gate_store (t := 2) (p := 49) rfl ?_); refine store_event (t := 2) (p := 49) (v := ?vo_w37) (w1 := (w34.setCell ⟨go20, (a3 : Int).toNat, none⟩ (.int .i64 (wrap64 ((rd l6_1 a3) - (wrap64 (Int.tdiv (wrap64 (a5 * (wrap64 (Int.tdiv (wrap64 ((rd l2_0 a3) * a0)) 256)))) a4))))))) ?hg ?ho ?hn ?hr ?_; (case ho => rfl); (case hg => rfl); (case hn => rfl); (case hr => first | (go_simp; done) | (go_simp; rfl)); intro w37 hw; have hg : w34.grownBy w37 (some go20) := (by rw [hw]; exact HP36.2); have hp_ : Kd.R (Kd.int .i64) 2 w37 w0.heap.size (fun k_ => ((P6_0_ k_ ∨ P6_1_ k_) ∨ w.heap.size ≤ k_) ∧ some k_ ≠ (.slice (some ⟨go18, 0, none⟩) l6_0.length co27 : Value).ownBlock) (.slice (some ⟨go20, 0, none⟩) l6_1.length co28) y118 := (by rw [hw, Ny118.out]; exact HP36.1); clear HP36; have n0_ := Aside0.mk (Kd.R_after (v := (.slice (some ⟨go20, 0, none⟩) l6_1.length co28)) (v1 := (.slice (some ⟨go20, 0, none⟩) l6_1.length co28)) (ok := (fun k_ => ((P6_0_ k_ ∨ P6_1_ k_) ∨ w.heap.size ≤ k_))) (rT_ HO6_0) hg (.inl rfl)); have n1_ := Aside0.mk (hp_); have n2_ := Aside0.mk (blk_grown (g := gb112) (o := .cells #[.slice (some ad114) l2_0.length c2_0, .slice A2_1 l2_1.length c2_1] 26 (0, 0)) (bT_ BK112) hg (Kd.R_ne HO6_1.out BK112.out (by decide))); have n3_ := Aside0.mk (blk_grown (g := gb113) (o := .cells #[.slice (some ⟨go18, 0, none⟩) l6_0.length co27, .slice (some ⟨go20, 0, none⟩) l6_1.length co28] 26 (0, 0)) (bT_ BK113) hg (Kd.R_ne HO6_1.out BK113.out (by decide))); have n4_ := Aside0.mk ((by rw [hw]; exact below_set (HB.out) GB20.out : Below w0.heap.size w0 w37)); have n5_ := Aside0.mk (Kept.of_grown (S := (fun k_ => (P6_0_ k_ ∨ P6_1_ k_) ∨ (k_ = gm ∨ k_ = gt))) hg sAKept_1 (fun k_ e_ => (HO6_1.out.1 k_ e_).1.imp_left .inl)); have nc_ := Aside0.mk (blk_grown BKC.out hg (Kd.R_ne HO6_1.out BKC.out (by decide))); have nm_ := Aside0.mk (blk_grown BKM.out hg HM1.out); have nt_ := Aside0.mk (blk_grown BKT.out hg HT1.out); clear BKC BKM BKT; have BKC := nc_; have BKM := nm_; have BKT := nt_; clear nc_ nm_ nt_; have hqc : w37.cell? ⟨gc, 0, none⟩ = some (.int .i64 a3) := (blk_cell BKC.out 0).trans rfl; clear HO6_0; clear HO6_1; clear BK112; clear BK113; clear HB; clear HK; have HO6_0 := n0_; have HO6_1 := n1_; have BK112 := n2_; have BK113 := n3_; have HB := n4_; have HK := n5_; clear n0_ n1_ n2_ n3_ n4_ n5_; clear hg hw hp_; have hcz38_0 : w37.cell? ⟨gb113, 0, none⟩ = some (.slice (some ⟨go18, 0, none⟩) l6_0.length co27) := (blk_cell BK113.out 0).trans rfl; have hcz38_1 : w37.cell? ⟨gb113, 1, none⟩ = some (.slice (some ⟨go20, 0, none⟩) l6_1.length co28) := (blk_cell BK113.out 1).trans rfl; have hfz38_0 := blk_frozen BK113.out 0; have hfz38_1 := blk_frozen BK113.out 1; have p119 : 0 ≤ (a1 : Int) := of_decide_eq_true (by first | (with_reducible assumption) | assumption); have q119 : a1 < (y116.length : Int) := (by have h_ : (a1 : Int) < ((l6_0.length : Int) : Int) := of_decide_eq_true (by first | (with_reducible assumption) | assumption); first | (have e_ := (Kd.R_reads' HO6_0.out).1; omega) | simpa only [Ny116.out, List.length_set] using h_); have ql119 : ((a1 : Int) < ((l6_0.length : Int) : Int)) = True := eq_true (of_decide_eq_true (by first | (with_reducible assumption) | assumption)); obtain ⟨ad119, e119, hx119_0⟩ := Kd.at_int (Kd.R_reads' HO6_0.out).2.2 a1 p119 q119; obtain rfl : (⟨go18, 0, none⟩ : Addr) = ad119 := (by injection e119); (first | simp only [add_plain] at hx119_0 | simp only [add_at] at hx119_0 | simp only [Addr.add, Nat.zero_add] at hx119_0 | skip); replace p119 := eq_true p119; replace q119 := eq_true q119; have p23 : 0 ≤ (a1 : Int) := of_decide_eq_true (by first | (with_reducible assumption) | assumption); have q23 : (a1 : Int) < ((l6_0.length : Int) : Int) := of_decide_eq_true (by first | (with_reducible assumption) | assumption); obtain ⟨hx23_0, hf23_0⟩ := Kd.R_celln 0 HO6_0.out (a1 : Int) p23 q23; replace p23 := eq_true p23; replace q23 := eq_true q23; obtain ⟨hy39_, hz39_⟩ := Kd.R_celln 0 HO6_0.out (a1 : Int) (of_decide_eq_true (by first | (with_reducible assumption) | assumption)) (of_decide_eq_true (by first | (with_reducible assumption) | assumption)); have HP39 := Kd.R_putg HO6_0.out (a1 : Int) (wrap64 ((rd y116 a1) + (wrap64 (Int.tdiv (wrap64 ((rd l2_0 a3) * a0)) 256))))) | ((with_reducible refine gate_store (t := 2) (p := 57) rfl ?_); refine store_event (t := 2) (p := 57) (v := ?vo_w40) (w1 := (w37.setCell ⟨go18, (a1 : Int).toNat, none⟩ (.int .i64 (wrap64 ((rd y116 a1) + (wrap64 (Int.tdiv (wrap64 ((rd l2_0 a3) * a0)) 256))))))) ?hg ?ho ?hn ?hr ?_; (case ho => rfl); (case hg => rfl); (case hn => rfl); (case hr => first | (go_simp; done) | (go_simp; rfl)); intro w40 hw; have hg : w37.grownBy w40 (some go18) := (by rw [hw]; exact HP39.2); have hp_ : Kd.R (Kd.int .i64) 2 w40 w0.heap.size (fun k_ => ((P6_0_ k_ ∨ P6_1_ k_) ∨ w.heap.size ≤ k_) ∧ some k_ ≠ (.slice (some ⟨go20, 0, none⟩) l6_1.length co28 : Value).ownBlock) (.slice (some ⟨go18, 0, none⟩) l6_0.length co27) y120 := (by rw [hw, Ny120.out]; exact HP39.1); clear HP39; have n0_ := Aside0.mk (hp_); have n1_ := Aside0.mk (Kd.R_after (v := (.slice (some ⟨go18, 0, none⟩) l6_0.length co27)) (v1 := (.slice (some ⟨go18, 0, none⟩) l6_0.length co27)) (ok := (fun k_ => ((P6_0_ k_ ∨ P6_1_ k_) ∨ w.heap.size ≤ k_))) (rT_ HO6_1) hg (.inl rfl)); have n2_ := Aside0.mk (blk_grown (g := gb112) (o := .cells #[.slice (some ad114) l2_0.length c2_0, .slice A2_1 l2_1.length c2_1] 26 (0, 0)) (bT_ BK112) hg (Kd.R_ne HO6_0.out BK112.out (by decide))); have n3_ := Aside0.mk (blk_grown (g := gb113) (o := .cells #[.slice (some ⟨go18, 0, none⟩) l6_0.length co27, .slice (some ⟨go20, 0, none⟩) l6_1.length co28] 26 (0, 0)) (bT_ BK113) hg (Kd.R_ne HO6_0.out BK113.out (by decide))); have n4_ := Aside0.mk ((by rw [hw]; exact below_set (HB.out) GB18.out : Below w0.heap.size w0 w40)); have n5_ := Aside0.mk (Kept.of_grown (S := (fun k_ => (P6_0_ k_ ∨ P6_1_ k_) ∨ (k_ = gm ∨ k_ = gt))) hg sAKept_1 (fun k_ e_ => (HO6_0.out.1 k_ e_).1.imp_left .inl)); have nc_ := Aside0.mk (blk_grown BKC.out hg (Kd.R_ne HO6_0.out BKC.out (by decide))); have nm_ := Aside0.mk (blk_grown BKM.out hg HM0.out); have nt_ := Aside0.mk (blk_grown BKT.out hg HT0.out); clear BKC BKM BKT; have BKC := nc_; have BKM := nm_; have BKT := nt_; clear nc_ nm_ nt_; have hqc : w40.cell? ⟨gc, 0, none⟩ = some (.int .i64 a3) := (blk_cell BKC.out 0).trans rfl; clear HO6_0; clear HO6_1; clear BK112; clear BK113; clear HB; clear HK; have HO6_0 := n0_; have HO6_1 := n1_; have BK112 := n2_; have BK113 := n3_; have HB := n4_; have HK := n5_; clear n0_ n1_ n2_ n3_ n4_ n5_; clear hg hw hp_; have hcz41_0 : w40.cell? ⟨gb113, 0, none⟩ = some (.slice (some ⟨go18, 0, none⟩) l6_0.length co27) := (blk_cell BK113.out 0).trans rfl; have hcz41_1 : w40.cell? ⟨gb113, 1, none⟩ = some (.slice (some ⟨go20, 0, none⟩) l6_1.length co28) := (blk_cell BK113.out 1).trans rfl; have hfz41_0 := blk_frozen BK113.out 0; have hfz41_1 := blk_frozen BK113.out 1; have p121 : 0 ≤ (a1 : Int) := of_decide_eq_true (by first | (with_reducible assumption) | assumption); have q121 : a1 < (y118.length : Int) := (by have h_ : (a1 : Int) < ((l6_1.length : Int) : Int) := of_decide_eq_true (by first | (with_reducible assumption) | assumption); first | (have e_ := (Kd.R_reads' HO6_1.out).1; omega) | simpa only [Ny118.out, List.length_set] using h_); have ql121 : ((a1 : Int) < ((l6_1.length : Int) : Int)) = True := eq_true (of_decide_eq_true (by first | (with_reducible assumption) | assumption)); obtain ⟨ad121, e121, hx121_0⟩ := Kd.at_int (Kd.R_reads' HO6_1.out).2.2 a1 p121 q121; obtain rfl : (⟨go20, 0, none⟩ : Addr) = ad121 := (by injection e121); (first | simp only [add_plain] at hx121_0 | simp only [add_at] at hx121_0 | simp only [Addr.add, Nat.zero_add] at hx121_0 | skip); replace p121 := eq_true p121; replace q121 := eq_true q121; have p25 : 0 ≤ (a1 : Int) := of_decide_eq_true (by first | (with_reducible assumption) | assumption); have q25 : (a1 : Int) < ((l6_1.length : Int) : Int) := of_decide_eq_true (by first | (with_reducible assumption) | assumption); obtain ⟨hx25_0, hf25_0⟩ := Kd.R_celln 0 HO6_1.out (a1 : Int) p25 q25; replace p25 := eq_true p25; replace q25 := eq_true q25; obtain ⟨hy42_, hz42_⟩ := Kd.R_celln 0 HO6_1.out (a1 : Int) (of_decide_eq_true (by first | (with_reducible assumption) | assumption)) (of_decide_eq_true (by first | (with_reducible assumption) | assumption)); have HP42 := Kd.R_putg HO6_1.out (a1 : Int) (wrap64 ((rd y118 a1) + (wrap64 (Int.tdiv (wrap64 (a5 * (wrap64 (Int.tdiv (wrap64 ((rd l2_0 a3) * a0)) 256)))) a4))))) | ((with_reducible refine gate_store (t := 2) (p := 65) rfl ?_); refine store_event (t := 2) (p := 65) (v := ?vo_w43) (w1 := (w40.setCell ⟨go20, (a1 : Int).toNat, none⟩ (.int .i64 (wrap64 ((rd y118 a1) + (wrap64 (Int.tdiv (wrap64 (a5 * (wrap64 (Int.tdiv (wrap64 ((rd l2_0 a3) * a0)) 256)))) a4))))))) ?hg ?ho ?hn ?hr ?_; (case ho => rfl); (case hg => rfl); (case hn => rfl); (case hr => first | (go_simp; done) | (go_simp; rfl)); intro w43 hw; have hg : w40.grownBy w43 (some go20) := (by rw [hw]; exact HP42.2); have hp_ : Kd.R (Kd.int .i64) 2 w43 w0.heap.size (fun k_ => ((P6_0_ k_ ∨ P6_1_ k_) ∨ w.heap.size ≤ k_) ∧ some k_ ≠ (.slice (some ⟨go18, 0, none⟩) l6_0.length co27 : Value).ownBlock) (.slice (some ⟨go20, 0, none⟩) l6_1.length co28) y122 := (by rw [hw, Ny122.out]; exact HP42.1); clear HP42; have n0_ := Aside0.mk (Kd.R_after (v := (.slice (some ⟨go20, 0, none⟩) l6_1.length co28)) (v1 := (.slice (some ⟨go20, 0, none⟩) l6_1.length co28)) (ok := (fun k_ => ((P6_0_ k_ ∨ P6_1_ k_) ∨ w.heap.size ≤ k_))) (rT_ HO6_0) hg (.inl rfl)); have n1_ := Aside0.mk (hp_); have n2_ := Aside0.mk (blk_grown (g := gb112) (o := .cells #[.slice (some ad114) l2_0.length c2_0, .slice A2_1 l2_1.length c2_1] 26 (0, 0)) (bT_ BK112) hg (Kd.R_ne HO6_1.out BK112.out (by decide))); have n3_ := Aside0.mk (blk_grown (g := gb113) (o := .cells #[.slice (some ⟨go18, 0, none⟩) l6_0.length co27, .slice (some ⟨go20, 0, none⟩) l6_1.length co28] 26 (0, 0)) (bT_ BK113) hg (Kd.R_ne HO6_1.out BK113.out (by decide))); have n4_ := Aside0.mk ((by rw [hw]; exact below_set (HB.out) GB20.out : Below w0.heap.size w0 w43)); have n5_ := Aside0.mk (Kept.of_grown (S := (fun k_ => (P6_0_ k_ ∨ P6_1_ k_) ∨ (k_ = gm ∨ k_ = gt))) hg sAKept_1 (fun k_ e_ => (HO6_1.out.1 k_ e_).1.imp_left .inl)); have nc_ := Aside0.mk (blk_grown BKC.out hg (Kd.R_ne HO6_1.out BKC.out (by decide))); have nm_ := Aside0.mk (blk_grown BKM.out hg HM1.out); have nt_ := Aside0.mk (blk_grown BKT.out hg HT1.out); clear BKC BKM BKT; have BKC := nc_; have BKM := nm_; have BKT := nt_; clear nc_ nm_ nt_; have hqc : w43.cell? ⟨gc, 0, none⟩ = some (.int .i64 a3) := (blk_cell BKC.out 0).trans rfl; clear HO6_0; clear HO6_1; clear BK112; clear BK113; clear HB; clear HK; have HO6_0 := n0_; have HO6_1 := n1_; have BK112 := n2_; have BK113 := n3_; have HB := n4_; have HK := n5_; clear n0_ n1_ n2_ n3_ n4_ n5_; clear hg hw hp_))
    first | (refine bodyPost_ret (results_none rfl _ _ _) rfl ?_) | go_end0
    exact ⟨rfl, Kd.R_mono HO6_0.out (fun _ hk => hk.1), Kd.R_mono HO6_1.out (fun _ hk => hk.1), BKM.out, by first | exact BKT.out | simpa only [Int.sub_zero] using BKT.out, HB.out, HK.out⟩
  ·rw [if_neg c15] at H
   have c15b0 : decide (0 < a4) = false := decide_eq_false c15
   clear c15
   obtain ⟨c44, H⟩ := ifS_ H
   have c44b0 : decide (a3 < (l6_0.length : Int)) = true := decide_eq_true c44
   clear c44
   obtain ⟨y124, hy124⟩ : ∃ y_ : List Int, y_ = (l6_0.set (a3 : Int).toNat (wrap64 ((rd l6_0 a3) - (wrap64 (Int.tdiv (wrap64 ((rd l2_0 a3) * a0)) 256))))) := ⟨_, rfl⟩
   replace H : (if a3 < (l6_1.length : Int) then ((some (l6_1.set (a3 : Int).toNat (wrap64 ((rd l6_1 a3) - 0)) : List Int)).bind fun y126 => (if 0 ≤ a1 then (if a1 < (l6_0.length : Int) then (if a1 < (l6_1.length : Int) then (some (wrap64 (a4 - (wrap64 (Int.tdiv (wrap64 ((rd l2_0 a3) * a0)) 256))), wrap64 (a5 - 0), (y124.set (a1 : Int).toNat (wrap64 ((rd y124 a1) + (wrap64 (Int.tdiv (wrap64 ((rd l2_0 a3) * a0)) 256))))), (y126.set (a1 : Int).toNat (wrap64 ((rd y126 a1) + 0))))) else (none)) else (none)) else (none))) else (none)) = some (r1, r2, r3, r4) := by first | (rw [hy124]; with_reducible exact H) | (have H2_ := (Option.bind_some _ _).symm.trans H; rw [hy124]; with_reducible exact H2_) | (have H2_ := (Option.bind_some _ _).symm.trans H; with_reducible exact H2_) | with_reducible exact H | (rw [hy124]; exact H) | exact H
   have Ny124 := Aside0.mk hy124; clear hy124
   obtain ⟨c46, H⟩ := ifS_ H
   have c46b0 : decide (a3 < (l6_1.length : Int)) = true := decide_eq_true c46
   clear c46
   obtain ⟨y126, hy126⟩ : ∃ y_ : List Int, y_ = (l6_1.set (a3 : Int).toNat (wrap64 ((rd l6_1 a3) - 0))) := ⟨_, rfl⟩
   replace H : (if 0 ≤ a1 then (if a1 < (l6_0.length : Int) then (if a1 < (l6_1.length : Int) then (some (wrap64 (a4 - (wrap64 (Int.tdiv (wrap64 ((rd l2_0 a3) * a0)) 256))), wrap64 (a5 - 0), (y124.set (a1 : Int).toNat (wrap64 ((rd y124 a1) + (wrap64 (Int.tdiv (wrap64 ((rd l2_0 a3) * a0)) 256))))), (y126.set (a1 : Int).toNat (wrap64 ((rd y126 a1) + 0))))) else (none)) else (none)) else (none)) = some (r1, r2, r3, r4) := by first | (rw [hy126]; with_reducible exact H) | (have H2_ := (Option.bind_some _ _).symm.trans H; rw [hy126]; with_reducible exact H2_) | (have H2_ := (Option.bind_some _ _).symm.trans H; with_reducible exact H2_) | with_reducible exact H | (rw [hy126]; exact H) | exact H
   have Ny126 := Aside0.mk hy126; clear hy126
   obtain ⟨c48, H⟩ := ifS_ H
   have c48b0 : decide (0 ≤ a1) = true := decide_eq_true c48
   clear c48
   obtain ⟨c49, H⟩ := ifS_ H
   have c49b0 : decide (a1 < (l6_0.length : Int)) = true := decide_eq_true c49
   clear c49
   obtain ⟨y128, hy128⟩ : ∃ y_ : List Int, y_ = (y124.set (a1 : Int).toNat (wrap64 ((rd y124 a1) + (wrap64 (Int.tdiv (wrap64 ((rd l2_0 a3) * a0)) 256))))) := ⟨_, rfl⟩
   replace H : (if a1 < (l6_1.length : Int) then (some (wrap64 (a4 - (wrap64 (Int.tdiv (wrap64 ((rd l2_0 a3) * a0)) 256))), wrap64 (a5 - 0), y128, (y126.set (a1 : Int).toNat (wrap64 ((rd y126 a1) + 0))))) else (none)) = some (r1, r2, r3, r4) := by first | (rw [hy128]; with_reducible exact H) | (have H2_ := (Option.bind_some _ _).symm.trans H; rw [hy128]; with_reducible exact H2_) | (have H2_ := (Option.bind_some _ _).symm.trans H; with_reducible exact H2_) | with_reducible exact H | (rw [hy128]; exact H) | exact H
   have Ny128 := Aside0.mk hy128; clear hy128
   obtain ⟨c51, H⟩ := ifS_ H
   have c51b0 : decide (a1 < (l6_1.length : Int)) = true := decide_eq_true c51
   clear c51
   obtain ⟨y130, hy130⟩ : ∃ y_ : List Int, y_ = (y126.set (a1 : Int).toNat (wrap64 ((rd y126 a1) + 0))) := ⟨_, rfl⟩
   replace H : (some (wrap64 (a4 - (wrap64 (Int.tdiv (wrap64 ((rd l2_0 a3) * a0)) 256))), wrap64 (a5 - 0), y128, y130)) = some (r1, r2, r3, r4) := by first | (rw [hy130]; with_reducible exact H) | (have H2_ := (Option.bind_some _ _).symm.trans H; rw [hy130]; with_reducible exact H2_) | (have H2_ := (Option.bind_some _ _).symm.trans H; with_reducible exact H2_) | with_reducible exact H | (rw [hy130]; exact H) | exact H
   have Ny130 := Aside0.mk hy130; clear hy130
   simp only [Option.some.injEq, Prod.mk.injEq] at H
   obtain ⟨rfl, rfl, rfl, rfl⟩ := H
   obtain ⟨Ao54, co54, eo54⟩ := Kd.R_slice HO6_0.out
   subst eo54
   obtain ⟨Ao55, co55, eo55⟩ := Kd.R_slice HO6_1.out
   subst eo55
   have hq1 : w.cell? ⟨gb112, 0, none⟩ = some (.slice A2_0 l2_0.length c2_0) := (blk_cell BK112.out 0).trans rfl
   have hqc : w.cell? ⟨gc, 0, none⟩ = some (.int .i64 a3) := (blk_cell BKC.out 0).trans rfl
   have hqm : w.cell? ⟨gm, 0, none⟩ = some (.int .i64 a4) := (blk_cell BKM.out 0).trans rfl
   have hqt : w.cell? ⟨gt, 0, none⟩ = some (.int .i64 a5) := (blk_cell BKT.out 0).trans rfl
   have hfm := blk_frozen BKM.out 0; have hft := blk_frozen BKT.out 0; have hmt_ := HMT.out; have htm_ := Ne.symm HMT.out
   have p114 : 0 ≤ (a3 : Int) := of_decide_eq_true (by first | (with_reducible assumption) | assumption)
   have q114 : a3 < (l2_0.length : Int) := of_decide_eq_true (by first | (with_reducible assumption) | assumption)
   obtain ⟨ad114, e114, hx114_0⟩ := Kd.at_int HR2_0.out a3 p114 q114
   cases e114
   replace p114 := eq_true p114; replace q114 := eq_true q114
   go_enter Try.func41, Try.ntmps41
   go_wp2
   go_region
   generalize hw56 : World.drew (World.setCell (World.setCell w ⟨gm, 0, none⟩ (.int .i64 (wrap64 (a4 - (wrap64 (Int.tdiv (wrap64 ((rd l2_0 a3) * a0)) 256)))))) ⟨gt, 0, none⟩ (.int .i64 (wrap64 a5))) = w56
   have n1_ : Aside0 (w56.heap[gb112]? = some (.cells #[.slice (some ad114) l2_0.length c2_0, .slice A2_1 l2_1.length c2_1] 26 (0, 0))) := ⟨by rw [← hw56]; exact blk_drew (blk_far (blk_far BK112.out (blk_ne BK112.out BKM.out (by decide)) _) (blk_ne BK112.out BKT.out (by decide)) _)⟩
   have n2_ : Aside0 (w56.heap[gb113]? = some (.cells #[.slice Ao54 l6_0.length co54, .slice Ao55 l6_1.length co55] 26 (0, 0))) := ⟨by rw [← hw56]; exact blk_drew (blk_far (blk_far BK113.out (blk_ne BK113.out BKM.out (by decide)) _) (blk_ne BK113.out BKT.out (by decide)) _)⟩
   have n3_ : Aside0 (w56.heap[gc]? = some (.cells #[.int .i64 a3] 3 (0, 0))) := ⟨by rw [← hw56]; exact blk_drew (blk_far (blk_far BKC.out (blk_ne BKC.out BKM.out (by decide)) _) (blk_ne BKC.out BKT.out (by decide)) _)⟩
   have n4_ : Aside0 (w56.heap[gm]? = some (.cells #[.int .i64 (wrap64 (a4 - (wrap64 (Int.tdiv (wrap64 ((rd l2_0 a3) * a0)) 256))))] 2 (0, 0))) := ⟨by rw [← hw56]; exact blk_drew (blk_far (blk_put (cs := #[.int .i64 a4]) BKM.out 0 _ rfl) HMT.out _)⟩
   have n5_ : Aside0 (w56.heap[gt]? = some (.cells #[.int .i64 (wrap64 (a5 - 0))] 2 (0, 0))) := ⟨by rw [← hw56]; (try rw [Int.sub_zero]); exact blk_drew (blk_put (cs := #[.int .i64 a5]) (blk_far BKT.out (Ne.symm HMT.out) _) 0 _ rfl)⟩
   have n6_ : Aside0 (Kd.R (Kd.int .i64) 2 w56 w0.heap.size (fun k_ => ((P6_0_ k_ ∨ P6_1_ k_) ∨ w.heap.size ≤ k_) ∧ some k_ ≠ (.slice Ao55 l6_1.length co55 : Value).ownBlock) (.slice Ao54 l6_0.length co54) l6_0) := ⟨by rw [← hw56]; exact Kd.R_drew (r_far2 rfl (r_far2 rfl HO6_0.out HM0.out _) HT0.out _)⟩
   have n7_ : Aside0 (Kd.R (Kd.int .i64) 2 w56 w0.heap.size (fun k_ => ((P6_0_ k_ ∨ P6_1_ k_) ∨ w.heap.size ≤ k_) ∧ some k_ ≠ (.slice Ao54 l6_0.length co54 : Value).ownBlock) (.slice Ao55 l6_1.length co55) l6_1) := ⟨by rw [← hw56]; exact Kd.R_drew (r_far2 rfl (r_far2 rfl HO6_1.out HM1.out _) HT1.out _)⟩
   have n8_ : Aside0 (Below w0.heap.size w0 w56) := ⟨by rw [← hw56]; exact below_drew1 (below_set (below_set HB.out GEM.out) GET.out)⟩
   have n9_ : Aside0 (Kept w w56 (fun k_ => (P6_0_ k_ ∨ P6_1_ k_) ∨ (k_ = gm ∨ k_ = gt))) := ⟨by rw [← hw56]; exact Kept.drew (Kept.setCell (Kept.setCell HK.out (.inl (.inr (.inl rfl))) _) (.inl (.inr (.inr rfl))) _)⟩
   clear BK112 BK113 BKC BKM BKT HO6_0 HO6_1 HB HK hw56
   have BK112 := n1_; have BK113 := n2_; have BKC := n3_; have BKM := n4_; have BKT := n5_; have HO6_0 := n6_; have HO6_1 := n7_; have HB := n8_; have HK := n9_; clear n1_ n2_ n3_ n4_ n5_ n6_ n7_ n8_ n9_ hq1 hqc hqm hqt hfm hft hx114_0
   have hqc : w56.cell? ⟨gc, 0, none⟩ = some (.int .i64 a3) := (blk_cell BKC.out 0).trans rfl
   have hcz59_0 : w56.cell? ⟨gb113, 0, none⟩ = some (.slice Ao54 l6_0.length co54) := (blk_cell BK113.out 0).trans rfl
   have hcz59_1 : w56.cell? ⟨gb113, 1, none⟩ = some (.slice Ao55 l6_1.length co55) := (blk_cell BK113.out 1).trans rfl
   have hfz59_0 := blk_frozen BK113.out 0; have hfz59_1 := blk_frozen BK113.out 1
   have p123 : 0 ≤ (a3 : Int) := of_decide_eq_true (by first | (with_reducible assumption) | assumption)
   have q123 : a3 < (l6_0.length : Int) := of_decide_eq_true (by first | (with_reducible assumption) | assumption)
   obtain ⟨ad123, e123, hx123_0⟩ := Kd.at_int (Kd.R_reads' HO6_0.out).2.2 a3 p123 q123
   cases e123
   replace p123 := eq_true p123; replace q123 := eq_true q123
   have p45 : 0 ≤ (a3 : Int) := of_decide_eq_true (by first | (with_reducible assumption) | assumption)
   have q45 : (a3 : Int) < ((l6_0.length : Int) : Int) := of_decide_eq_true (by first | (with_reducible assumption) | assumption)
   obtain ⟨go45, co45, eo45, gb45, gl45, cl45, HG45⟩ := Kd.R_form HO6_0.out (by omega)
   (first | cases eo45 | (injection eo45 with ea_ en_ ec_; (first | subst ea_ | (injection ea_ with ea_; subst ea_)); subst ec_; clear en_))
   have GB45 := Aside0.mk gb45; have GG45 := Aside0.mk HG45; clear gb45 gl45 HG45
   have HMgo45 := Aside0.mk (show ((P6_0_ go45 ∨ P6_1_ go45) ∨ w.heap.size ≤ go45) from (HO6_0.out.1 _ rfl).1)
   (first | simp only [add_plain] at hx123_0 | skip)
   obtain ⟨hx45_0, hf45_0⟩ := Kd.R_celln 0 HO6_0.out (a3 : Int) p45 q45
   replace p45 := eq_true p45; replace q45 := eq_true q45
   obtain ⟨hy60_, hz60_⟩ := Kd.R_celln 0 HO6_0.out (a3 : Int) (of_decide_eq_true (by first | (with_reducible assumption) | assumption)) (of_decide_eq_true (by first | (with_reducible assumption) | assumption))
   have HP60 := Kd.R_putg HO6_0.out (a3 : Int) (wrap64 ((rd l6_0 a3) - (wrap64 (Int.tdiv (wrap64 ((rd l2_0 a3) * a0)) 256))))
   go_wp2_with (first | ((with_reducible refine gate_store (t := 2) (p := 41) rfl ?_); refine store_event (t := 2) (p := 41) (v := ?vo_w61) (w1 := (w56.setCell ⟨go45, (a3 : Int).toNat, none⟩ (.int .i64 (wrap64 ((rd l6_0 a3) - (wrap64 (Int.tdiv (wrap64 ((rd l2_0 a3) * a0)) 256))))))) ?hg ?ho ?hn ?hr ?_; (case ho => rfl); (case hg => rfl); (case hn => rfl); (case hr => first | (go_simp; done) | (go_simp; rfl)); intro w61 hw; have hg : w56.grownBy w61 (some go45) := (by rw [hw]; exact HP60.2); have hp_ : Kd.R (Kd.int .i64) 2 w61 w0.heap.size (fun k_ => ((P6_0_ k_ ∨ P6_1_ k_) ∨ w.heap.size ≤ k_) ∧ some k_ ≠ (.slice Ao55 l6_1.length co55 : Value).ownBlock) (.slice (some ⟨go45, 0, none⟩) l6_0.length co54) y124 := (by rw [hw, Ny124.out]; exact HP60.1); clear HP60; have n0_ := Aside0.mk (hp_); have n1_ := Aside0.mk (Kd.R_after (v := (.slice (some ⟨go45, 0, none⟩) l6_0.length co54)) (v1 := (.slice (some ⟨go45, 0, none⟩) l6_0.length co54)) (ok := (fun k_ => ((P6_0_ k_ ∨ P6_1_ k_) ∨ w.heap.size ≤ k_))) (rT_ HO6_1) hg (.inl rfl)); have n2_ := Aside0.mk (blk_grown (g := gb112) (o := .cells #[.slice (some ad114) l2_0.length c2_0, .slice A2_1 l2_1.length c2_1] 26 (0, 0)) (bT_ BK112) hg (Kd.R_ne HO6_0.out BK112.out (by decide))); have n3_ := Aside0.mk (blk_grown (g := gb113) (o := .cells #[.slice (some ⟨go45, 0, none⟩) l6_0.length co54, .slice Ao55 l6_1.length co55] 26 (0, 0)) (bT_ BK113) hg (Kd.R_ne HO6_0.out BK113.out (by decide))); have n4_ := Aside0.mk ((by rw [hw]; exact below_set (HB.out) GB45.out : Below w0.heap.size w0 w61)); have n5_ := Aside0.mk (Kept.of_grown (S := (fun k_ => (P6_0_ k_ ∨ P6_1_ k_) ∨ (k_ = gm ∨ k_ = gt))) hg sAKept_1 (fun k_ e_ => (HO6_0.out.1 k_ e_).1.imp_left .inl)); have nc_ := Aside0.mk (blk_grown BKC.out hg (Kd.R_ne HO6_0.out BKC.out (by decide))); have nm_ := Aside0.mk (blk_grown BKM.out hg HM0.out); have nt_ := Aside0.mk (blk_grown BKT.out hg HT0.out); clear BKC BKM BKT; have BKC := nc_; have BKM := nm_; have BKT := nt_; clear nc_ nm_ nt_; have hqc : w61.cell? ⟨gc, 0, none⟩ = some (.int .i64 a3) := (blk_cell BKC.out 0).trans rfl; clear HO6_0; clear HO6_1; clear BK112; clear BK113; clear HB; clear HK; have HO6_0 := n0_; have HO6_1 := n1_; have BK112 := n2_; have BK113 := n3_; have HB := n4_; have HK := n5_; clear n0_ n1_ n2_ n3_ n4_ n5_; clear hg hw hp_; have hcz62_0 : w61.cell? ⟨gb113, 0, none⟩ = some (.slice (some ⟨go45, 0, none⟩) l6_0.length co54) := (blk_cell BK113.out 0).trans rfl; have hcz62_1 : w61.cell? ⟨gb113, 1, none⟩ = some (.slice Ao55 l6_1.length co55) := (blk_cell BK113.out 1).trans rfl; have hfz62_0 := blk_frozen BK113.out 0; have hfz62_1 := blk_frozen BK113.out 1; have p125 : 0 ≤ (a3 : Int) := of_decide_eq_true (by first | (with_reducible assumption) | assumption); have q125 : a3 < (l6_1.length : Int) := of_decide_eq_true (by first | (with_reducible assumption) | assumption); obtain ⟨ad125, e125, hx125_0⟩ := Kd.at_int (Kd.R_reads' HO6_1.out).2.2 a3 p125 q125; cases e125; replace p125 := eq_true p125; replace q125 := eq_true q125; have p47 : 0 ≤ (a3 : Int) := of_decide_eq_true (by first | (with_reducible assumption) | assumption); have q47 : (a3 : Int) < ((l6_1.length : Int) : Int) := of_decide_eq_true (by first | (with_reducible assumption) | assumption); obtain ⟨go47, co47, eo47, gb47, gl47, cl47, HG47⟩ := Kd.R_form HO6_1.out (by omega); (first | cases eo47 | (injection eo47 with ea_ en_ ec_; (first | subst ea_ | (injection ea_ with ea_; subst ea_)); subst ec_; clear en_)); have GB47 := Aside0.mk gb47; have GG47 := Aside0.mk HG47; clear gb47 gl47 HG47; have HMgo47 := Aside0.mk (show ((P6_0_ go47 ∨ P6_1_ go47) ∨ w.heap.size ≤ go47) from (HO6_1.out.1 _ rfl).1); (first | simp only [add_plain] at hx125_0 | skip); obtain ⟨hx47_0, hf47_0⟩ := Kd.R_celln 0 HO6_1.out (a3 : Int) p47 q47; replace p47 := eq_true p47; replace q47 := eq_true q47; obtain ⟨hy63_, hz63_⟩ := Kd.R_celln 0 HO6_1.out (a3 : Int) (of_decide_eq_true (by first | (with_reducible assumption) | assumption)) (of_decide_eq_true (by first | (with_reducible assumption) | assumption)); have HP63 := Kd.R_putg HO6_1.out (a3 : Int) (wrap64 ((rd l6_1 a3) - 0))) | ((with_reducible refine gate_store (t := 2) (p := 49) rfl ?_); refine store_event (t := 2) (p := 49) (v := ?vo_w64) (w1 := (w61.setCell ⟨go47, (a3 : Int).toNat, none⟩ (.int .i64 (wrap64 ((rd l6_1 a3) - 0))))) ?hg ?ho ?hn ?hr ?_; (case ho => rfl); (case hg => rfl); (case hn => rfl); (case hr => first | (go_simp; done) | (go_simp; rfl)); intro w64 hw; have hg : w61.grownBy w64 (some go47) := (by rw [hw]; exact HP63.2); have hp_ : Kd.R (Kd.int .i64) 2 w64 w0.heap.size (fun k_ => ((P6_0_ k_ ∨ P6_1_ k_) ∨ w.heap.size ≤ k_) ∧ some k_ ≠ (.slice (some ⟨go45, 0, none⟩) l6_0.length co54 : Value).ownBlock) (.slice (some ⟨go47, 0, none⟩) l6_1.length co55) y126 := (by rw [hw, Ny126.out]; exact HP63.1); clear HP63; have n0_ := Aside0.mk (Kd.R_after (v := (.slice (some ⟨go47, 0, none⟩) l6_1.length co55)) (v1 := (.slice (some ⟨go47, 0, none⟩) l6_1.length co55)) (ok := (fun k_ => ((P6_0_ k_ ∨ P6_1_ k_) ∨ w.heap.size ≤ k_))) (rT_ HO6_0) hg (.inl rfl)); have n1_ := Aside0.mk (hp_); have n2_ := Aside0.mk (blk_grown (g := gb112) (o := .cells #[.slice (some ad114) l2_0.length c2_0, .slice A2_1 l2_1.length c2_1] 26 (0, 0)) (bT_ BK112) hg (Kd.R_ne HO6_1.out BK112.out (by decide))); have n3_ := Aside0.mk (blk_grown (g := gb113) (o := .cells #[.slice (some ⟨go45, 0, none⟩) l6_0.length co54, .slice (some ⟨go47, 0, none⟩) l6_1.length co55] 26 (0, 0)) (bT_ BK113) hg (Kd.R_ne HO6_1.out BK113.out (by decide))); have n4_ := Aside0.mk ((by rw [hw]; exact below_set (HB.out) GB47.out : Below w0.heap.size w0 w64)); have n5_ := Aside0.mk (Kept.of_grown (S := (fun k_ => (P6_0_ k_ ∨ P6_1_ k_) ∨ (k_ = gm ∨ k_ = gt))) hg sAKept_1 (fun k_ e_ => (HO6_1.out.1 k_ e_).1.imp_left .inl)); have nc_ := Aside0.mk (blk_grown BKC.out hg (Kd.R_ne HO6_1.out BKC.out (by decide))); have nm_ := Aside0.mk (blk_grown BKM.out hg HM1.out); have nt_ := Aside0.mk (blk_grown BKT.out hg HT1.out); clear BKC BKM BKT; have BKC := nc_; have BKM := nm_; have BKT := nt_; clear nc_ nm_ nt_; have hqc : w64.cell? ⟨gc, 0, none⟩ = some (.int .i64 a3) := (blk_cell BKC.out 0).trans rfl; clear HO6_0; clear HO6_1; clear BK112; clear BK113; clear HB; clear HK; have HO6_0 := n0_; have HO6_1 := n1_; have BK112 := n2_; have BK113 := n3_; have HB := n4_; have HK := n5_; clear n0_ n1_ n2_ n3_ n4_ n5_; clear hg hw hp_; have hcz65_0 : w64.cell? ⟨gb113, 0, none⟩ = some (.slice (some ⟨go45, 0, none⟩) l6_0.length co54) := (blk_cell BK113.out 0).trans rfl; have hcz65_1 : w64.cell? ⟨gb113, 1, none⟩ = some (.slice (some ⟨go47, 0, none⟩) l6_1.length co55) := (blk_cell BK113.out 1).trans rfl; have hfz65_0 := blk_frozen BK113.out 0; have hfz65_1 := blk_frozen BK113.out 1; have p127 : 0 ≤ (a1 : Int) := of_decide_eq_true (by first | (with_reducible assumption) | assumption); have q127 : a1 < (y124.length : Int) := (by have h_ : (a1 : Int) < ((l6_0.length : Int) : Int) := of_decide_eq_true (by first | (with_reducible assumption) | assumption); first | (have e_ := (Kd.R_reads' HO6_0.out).1; omega) | simpa only [Ny124.out, List.length_set] using h_); have ql127 : ((a1 : Int) < ((l6_0.length : Int) : Int)) = True := eq_true (of_decide_eq_true (by first | (with_reducible assumption) | assumption)); obtain ⟨ad127, e127, hx127_0⟩ := Kd.at_int (Kd.R_reads' HO6_0.out).2.2 a1 p127 q127; obtain rfl : (⟨go45, 0, none⟩ : Addr) = ad127 := (by injection e127); (first | simp only [add_plain] at hx127_0 | simp only [add_at] at hx127_0 | simp only [Addr.add, Nat.zero_add] at hx127_0 | skip); replace p127 := eq_true p127; replace q127 := eq_true q127; have p50 : 0 ≤ (a1 : Int) := of_decide_eq_true (by first | (with_reducible assumption) | assumption); have q50 : (a1 : Int) < ((l6_0.length : Int) : Int) := of_decide_eq_true (by first | (with_reducible assumption) | assumption); obtain ⟨hx50_0, hf50_0⟩ := Kd.R_celln 0 HO6_0.out (a1 : Int) p50 q50; replace p50 := eq_true p50; replace q50 := eq_true q50; obtain ⟨hy66_, hz66_⟩ := Kd.R_celln 0 HO6_0.out (a1 : Int) (of_decide_eq_true (by first | (with_reducible assumption) | assumption)) (of_decide_eq_true (by first | (with_reducible assumption) | assumption)); have HP66 := Kd.R_putg HO6_0.out (a1 : Int) (wrap64 ((rd y124 a1) + (wrap64 (Int.tdiv (wrap64 ((rd l2_0 a3) * a0)) 256))))) | ((with_reducible refine gate_store (t := 2) (p := 57) rfl ?_); refine store_event (t := 2) (p := 57) (v := ?vo_w67) (w1 := (w64.setCell ⟨go45, (a1 : Int).toNat, none⟩ (.int .i64 (wrap64 ((rd y124 a1) + (wrap64 (Int.tdiv (wrap64 ((rd l2_0 a3) * a0)) 256))))))) ?hg ?ho ?hn ?hr ?_; (case ho => rfl); (case hg => rfl); (case hn => rfl); (case hr => first | (go_simp; done) | (go_simp; rfl)); intro w67 hw; have hg : w64.grownBy w67 (some go45) := (by rw [hw]; exact HP66.2); have hp_ : Kd.R (Kd.int .i64) 2 w67 w0.heap.size (fun k_ => ((P6_0_ k_ ∨ P6_1_ k_) ∨ w.heap.size ≤ k_) ∧ some k_ ≠ (.slice (some ⟨go47, 0, none⟩) l6_1.length co55 : Value).ownBlock) (.slice (some ⟨go45, 0, none⟩) l6_0.length co54) y128 := (by rw [hw, Ny128.out]; exact HP66.1); clear HP66; have n0_ := Aside0.mk (hp_); have n1_ := Aside0.mk (Kd.R_after (v := (.slice (some ⟨go45, 0, none⟩) l6_0.length co54)) (v1 := (.slice (some ⟨go45, 0, none⟩) l6_0.length co54)) (ok := (fun k_ => ((P6_0_ k_ ∨ P6_1_ k_) ∨ w.heap.size ≤ k_))) (rT_ HO6_1) hg (.inl rfl)); have n2_ := Aside0.mk (blk_grown (g := gb112) (o := .cells #[.slice (some ad114) l2_0.length c2_0, .slice A2_1 l2_1.length c2_1] 26 (0, 0)) (bT_ BK112) hg (Kd.R_ne HO6_0.out BK112.out (by decide))); have n3_ := Aside0.mk (blk_grown (g := gb113) (o := .cells #[.slice (some ⟨go45, 0, none⟩) l6_0.length co54, .slice (some ⟨go47, 0, none⟩) l6_1.length co55] 26 (0, 0)) (bT_ BK113) hg (Kd.R_ne HO6_0.out BK113.out (by decide))); have n4_ := Aside0.mk ((by rw [hw]; exact below_set (HB.out) GB45.out : Below w0.heap.size w0 w67)); have n5_ := Aside0.mk (Kept.of_grown (S := (fun k_ => (P6_0_ k_ ∨ P6_1_ k_) ∨ (k_ = gm ∨ k_ = gt))) hg sAKept_1 (fun k_ e_ => (HO6_0.out.1 k_ e_).1.imp_left .inl)); have nc_ := Aside0.mk (blk_grown BKC.out hg (Kd.R_ne HO6_0.out BKC.out (by decide))); have nm_ := Aside0.mk (blk_grown BKM.out hg HM0.out); have nt_ := Aside0.mk (blk_grown BKT.out hg HT0.out); clear BKC BKM BKT; have BKC := nc_; have BKM := nm_; have BKT := nt_; clear nc_ nm_ nt_; have hqc : w67.cell? ⟨gc, 0, none⟩ = some (.int .i64 a3) := (blk_cell BKC.out 0).trans rfl; clear HO6_0; clear HO6_1; clear BK112; clear BK113; clear HB; clear HK; have HO6_0 := n0_; have HO6_1 := n1_; have BK112 := n2_; have BK113 := n3_; have HB := n4_; have HK := n5_; clear n0_ n1_ n2_ n3_ n4_ n5_; clear hg hw hp_; have hcz68_0 : w67.cell? ⟨gb113, 0, none⟩ = some (.slice (some ⟨go45, 0, none⟩) l6_0.length co54) := (blk_cell BK113.out 0).trans rfl; have hcz68_1 : w67.cell? ⟨gb113, 1, none⟩ = some (.slice (some ⟨go47, 0, none⟩) l6_1.length co55) := (blk_cell BK113.out 1).trans rfl; have hfz68_0 := blk_frozen BK113.out 0; have hfz68_1 := blk_frozen BK113.out 1; have p129 : 0 ≤ (a1 : Int) := of_decide_eq_true (by first | (with_reducible assumption) | assumption); have q129 : a1 < (y126.length : Int) := (by have h_ : (a1 : Int) < ((l6_1.length : Int) : Int) := of_decide_eq_true (by first | (with_reducible assumption) | assumption); first | (have e_ := (Kd.R_reads' HO6_1.out).1; omega) | simpa only [Ny126.out, List.length_set] using h_); have ql129 : ((a1 : Int) < ((l6_1.length : Int) : Int)) = True := eq_true (of_decide_eq_true (by first | (with_reducible assumption) | assumption)); obtain ⟨ad129, e129, hx129_0⟩ := Kd.at_int (Kd.R_reads' HO6_1.out).2.2 a1 p129 q129; obtain rfl : (⟨go47, 0, none⟩ : Addr) = ad129 := (by injection e129); (first | simp only [add_plain] at hx129_0 | simp only [add_at] at hx129_0 | simp only [Addr.add, Nat.zero_add] at hx129_0 | skip); replace p129 := eq_true p129; replace q129 := eq_true q129; have p52 : 0 ≤ (a1 : Int) := of_decide_eq_true (by first | (with_reducible assumption) | assumption); have q52 : (a1 : Int) < ((l6_1.length : Int) : Int) := of_decide_eq_true (by first | (with_reducible assumption) | assumption); obtain ⟨hx52_0, hf52_0⟩ := Kd.R_celln 0 HO6_1.out (a1 : Int) p52 q52; replace p52 := eq_true p52; replace q52 := eq_true q52; obtain ⟨hy69_, hz69_⟩ := Kd.R_celln 0 HO6_1.out (a1 : Int) (of_decide_eq_true (by first | (with_reducible assumption) | assumption)) (of_decide_eq_true (by first | (with_reducible assumption) | assumption)); have HP69 := Kd.R_putg HO6_1.out (a1 : Int) (wrap64 ((rd y126 a1) + 0))) | ((with_reducible refine gate_store (t := 2) (p := 65) rfl ?_); refine store_event (t := 2) (p := 65) (v := ?vo_w70) (w1 := (w67.setCell ⟨go47, (a1 : Int).toNat, none⟩ (.int .i64 (wrap64 ((rd y126 a1) + 0))))) ?hg ?ho ?hn ?hr ?_; (case ho => rfl); (case hg => rfl); (case hn => rfl); (case hr => first | (go_simp; done) | (go_simp; rfl)); intro w70 hw; have hg : w67.grownBy w70 (some go47) := (by rw [hw]; exact HP69.2); have hp_ : Kd.R (Kd.int .i64) 2 w70 w0.heap.size (fun k_ => ((P6_0_ k_ ∨ P6_1_ k_) ∨ w.heap.size ≤ k_) ∧ some k_ ≠ (.slice (some ⟨go45, 0, none⟩) l6_0.length co54 : Value).ownBlock) (.slice (some ⟨go47, 0, none⟩) l6_1.length co55) y130 := (by rw [hw, Ny130.out]; exact HP69.1); clear HP69; have n0_ := Aside0.mk (Kd.R_after (v := (.slice (some ⟨go47, 0, none⟩) l6_1.length co55)) (v1 := (.slice (some ⟨go47, 0, none⟩) l6_1.length co55)) (ok := (fun k_ => ((P6_0_ k_ ∨ P6_1_ k_) ∨ w.heap.size ≤ k_))) (rT_ HO6_0) hg (.inl rfl)); have n1_ := Aside0.mk (hp_); have n2_ := Aside0.mk (blk_grown (g := gb112) (o := .cells #[.slice (some ad114) l2_0.length c2_0, .slice A2_1 l2_1.length c2_1] 26 (0, 0)) (bT_ BK112) hg (Kd.R_ne HO6_1.out BK112.out (by decide))); have n3_ := Aside0.mk (blk_grown (g := gb113) (o := .cells #[.slice (some ⟨go45, 0, none⟩) l6_0.length co54, .slice (some ⟨go47, 0, none⟩) l6_1.length co55] 26 (0, 0)) (bT_ BK113) hg (Kd.R_ne HO6_1.out BK113.out (by decide))); have n4_ := Aside0.mk ((by rw [hw]; exact below_set (HB.out) GB47.out : Below w0.heap.size w0 w70)); have n5_ := Aside0.mk (Kept.of_grown (S := (fun k_ => (P6_0_ k_ ∨ P6_1_ k_) ∨ (k_ = gm ∨ k_ = gt))) hg sAKept_1 (fun k_ e_ => (HO6_1.out.1 k_ e_).1.imp_left .inl)); have nc_ := Aside0.mk (blk_grown BKC.out hg (Kd.R_ne HO6_1.out BKC.out (by decide))); have nm_ := Aside0.mk (blk_grown BKM.out hg HM1.out); have nt_ := Aside0.mk (blk_grown BKT.out hg HT1.out); clear BKC BKM BKT; have BKC := nc_; have BKM := nm_; have BKT := nt_; clear nc_ nm_ nt_; have hqc : w70.cell? ⟨gc, 0, none⟩ = some (.int .i64 a3) := (blk_cell BKC.out 0).trans rfl; clear HO6_0; clear HO6_1; clear BK112; clear BK113; clear HB; clear HK; have HO6_0 := n0_; have HO6_1 := n1_; have BK112 := n2_; have BK113 := n3_; have HB := n4_; have HK := n5_; clear n0_ n1_ n2_ n3_ n4_ n5_; clear hg hw hp_))
   first | (refine bodyPost_ret (results_none rfl _ _ _) rfl ?_) | go_end0
   exact ⟨rfl, Kd.R_mono HO6_0.out (fun _ hk => hk.1), Kd.R_mono HO6_1.out (fun _ hk => hk.1), BKM.out, by first | exact BKT.out | simpa only [Int.sub_zero] using BKT.out, HB.out, HK.out⟩

end Go.Proofs.Ytjmpgngndnheaaa.QFnRingKept
