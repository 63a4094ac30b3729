-- Written by a program of this session out of the printer's texts and contracts of its own.
import Derived.Test.YtjmpgngndnheaaaSq
import Derived.Test.YtjmpgngndnheaaaQFnRingKeptx0
import Derived.Test.YtjmpgngndnheaaaQFnRingKeptx1
import Derived.Test.YtjmpgngndnheaaaQFnRingKeptx2
namespace Go.Proofs.Ytjmpgngndnheaaa.QFnRingKept
open Go.RowKit Go.Proofs.YtjmpgngndnheaaaW.PrintWords Go.Proofs.YtjmpgngndnheaaaW.PrintLast Go.Proofs.YtjmpgngndnheaaaW.PrintMore Go.Proofs.Ytjmpgngndnheaaa.Sq
attribute [local go_sem] max2_int min2_int max_two min_two max_three min_three max_four min_four   -- for this text's walks alone
set_option linter.unusedVariables false
set_option linter.unusedSimpArgs false
theorem sABelo_6 {b : Nat} {w W : World} (h : Below b w W := by repeat (first | (with_reducible first | exact Aside0.out (by assumption) | apply below_alloc | apply pw_below_drewN | apply below_drew1 | refine below_set ?_ (Aside0.out (by assumption))) | exact Aside0.out (by assumption))) : Below b w W := h
theorem sAKeep_6 {w W : World} {g : Nat} {row : Option Nat} (h : KeepBut w W g row := by repeat (first | (with_reducible first | exact Aside0.out (by assumption) | apply KeepBut.set_ | apply keep_drewN | apply keep_drew | apply keep_alloc) | exact Aside0.out (by assumption))) : KeepBut w W g row := h

/-! ### impl_RunRing: function 17 -/
mutual
def impl_RunRing.j0 : Nat → List Int → Int → Bool → List Int → List Int → Option (List Int × List Int × Bool)
 | 0, _, _, _, _, _ => none
 | k + 1, x1, x2, x17, x239000, x239001 => if x17 = true then (some (([] : List Int), ([] : List Int), false)) else ((slices_Clone_int64_int64.f x239000).bind fun t242 => ((slices_Clone_int64_int64.f x239001).bind fun t245 => (impl_RunRing.l0 k x1 x2 t242 t245)))
def impl_RunRing.l0 : Nat → List Int → Int → List Int → List Int → Option (List Int × List Int × Bool)
 | 0, _, _, _, _ => none
 | k + 1, x1, x2, x249000, x249001 => if x2 > 0 then ((impl_advect.f k x249000 x249001 x1).bind fun bt249 => (impl_RunRing.l0 k x1 (wrap64 (x2 - 1)) bt249.1 bt249.2)) else (some (x249000, x249001, true))
end
def impl_RunRing.f (k : Nat) (l0_0 : List Int) (l0_1 : List Int) (l1 : List Int) (a2 : Int) : Option (List Int × List Int × Bool) := (impl_windsOk.f k l0_0 l0_1 l1).bind fun t240 => (if t240 = true then ((impl_in.f a2 0 200).bind fun t241 => (impl_RunRing.j0 k l1 a2 (!t241) l0_0 l0_1)) else (impl_RunRing.j0 k l1 a2 true l0_0 l0_1))
theorem impl_RunRing.mono_l : ∀ k, (∀ y0 y1 y2 y3 y4, LeO (impl_RunRing.j0 k y0 y1 y2 y3 y4) (impl_RunRing.j0 (k + 1) y0 y1 y2 y3 y4)) ∧ (∀ y0 y1 y2 y3, LeO (impl_RunRing.l0 k y0 y1 y2 y3) (impl_RunRing.l0 (k + 1) y0 y1 y2 y3))
 | 0 => ⟨fun _ _ _ _ _ r h => by simp [impl_RunRing.j0] at h, fun _ _ _ _ r h => by simp [impl_RunRing.l0] at h⟩
 | k + 1 => by
  obtain ⟨ih0, ih1⟩ := impl_RunRing.mono_l k
  refine ⟨?_, ?_⟩
  intro y0 y1 y2 y3 y4; unfold impl_RunRing.j0; rotate_left
  intro y0 y1 y2 y3; unfold impl_RunRing.l0; rotate_left
  all_goals repeat' first
  | (with_reducible exact ih0 _ _ _ _ _)
  | (with_reducible exact ih1 _ _ _ _)
  | (with_reducible exact impl_advect.mono _ _ _ _)
  | (with_reducible exact impl_windsOk.mono _ _ _ _)
  | (with_reducible exact LeO.refl _)
  | (with_reducible exact LeO.none _)
  | (with_reducible refine LeO.ite ?_ ?_)
  | (with_reducible refine LeO.bind ?_ (fun _ => ?_))
  | exact ih0 _ _ _ _ _
  | exact ih1 _ _ _ _
  | exact impl_advect.mono _ _ _ _
  | exact impl_windsOk.mono _ _ _ _
  | exact LeO.none _
  | refine LeO.ite ?_ ?_
  | refine LeO.bind ?_ (fun _ => ?_)
theorem impl_RunRing.mono : ∀ a0 a1 a2 a3 k, LeO (impl_RunRing.f k a0 a1 a2 a3) (impl_RunRing.f (k + 1) a0 a1 a2 a3) := by
 intro a0 a1 a2 a3 k
 obtain ⟨ih0, ih1⟩ := impl_RunRing.mono_l k
 unfold impl_RunRing.f
 repeat' first
   | (with_reducible exact ih0 _ _ _ _ _)
   | (with_reducible exact ih1 _ _ _ _)
   | (with_reducible exact impl_advect.mono _ _ _ _)
   | (with_reducible exact impl_windsOk.mono _ _ _ _)
   | (with_reducible exact LeO.refl _)
   | (with_reducible exact LeO.none _)
   | (with_reducible refine LeO.ite ?_ ?_)
   | (with_reducible refine LeO.bind ?_ (fun _ => ?_))
   | exact ih0 _ _ _ _ _
   | exact ih1 _ _ _ _
   | exact impl_advect.mono _ _ _ _
   | exact impl_windsOk.mono _ _ _ _
   | exact LeO.none _
   | refine LeO.ite ?_ ?_
   | refine LeO.bind ?_ (fun _ => ?_)
def impl_RunRing.T3 : Bool × List (List Nat × List Nat) := (true, [([], []), ([0], [0]), ([1], [1]), ([], []), ([3], [3]), ([4, 2], [4]), ([2, 5], [2, 5]), ([], []), ([7, 6, 5, 0, 1, 2, 3, 4, 5, 6, 7], [6, 7])])
def impl_RunRing.B3 : List Nat := [0, 1, 3, 0, 8, 31, 63, 0, 255]
theorem impl_RunRing.tab3 : rtab .any (opsOf Try.f17 3) = impl_RunRing.T3 := by kernel_rfl
theorem impl_RunRing.bits3 : waitsOk impl_RunRing.T3.2 impl_RunRing.B3 = true := by kernel_rfl
set_option maxHeartbeats 8000000 in
set_option maxRecDepth 100000 in
theorem impl_RunRing.calls (k : Nat) (A0_0 : Option Addr) (c0_0 : Nat) (l0_0 : List Int) (A0_1 : Option Addr) (c0_1 : Nat) (l0_1 : List Int) (A1 : Option Addr) (c1 : Nat) (l1 : List Int) (a2 : Int) (r1 : List Int) (r2 : List Int) (r3 : Bool) (w : World) (hr0_0 : Kd.C (Kd.int .i64) w A0_0 l0_0.length l0_0) (hc0_0 : l0_0.length ≤ c0_0) (hr0_1 : Kd.C (Kd.int .i64) w A0_1 l0_1.length l0_1) (hc0_1 : l0_1.length ≤ c0_1) (hr1 : Kd.C (Kd.int .i64) w A1 l1.length l1) (hc1 : l1.length ≤ c1) (h : impl_RunRing.f k l0_0 l0_1 l1 a2 = some (r1, r2, r3)) :
  Calls Try.prog 17 #[.agg #[.slice A0_0 l0_0.length c0_0, .slice A0_1 l0_1.length c0_1], .slice A1 l1.length c1, .int .i64 a2] w fun e w' => ∃ v0_ v1_ : Value, e = .returned (.tuple #[.agg #[v0_, v1_], .bool r3]) ∧ Kd.R (Kd.int .i64) 2 w' w.heap.size (fun k_ => some k_ ≠ (v1_ : Value).ownBlock) v0_ r1 ∧ Kd.R (Kd.int .i64) 2 w' w.heap.size (fun k_ => some k_ ≠ (v0_ : Value).ownBlock) v1_ r2 ∧ Below w.heap.size w w' := by
 have hu26 := Try.underlying26; have HR0_0 := Aside0.mk hr0_0; have HC0_0 := Aside0.mk hc0_0; clear hr0_0 hc0_0; have HR0_1 := Aside0.mk hr0_1; have HC0_1 := Aside0.mk hc0_1; clear hr0_1 hc0_1; have HR1 := Aside0.mk hr1; have HC1 := Aside0.mk hc1; clear hr1 hc1
 have HB := Aside0.mk (Below.refl w.heap.size w)
 have H : ((impl_windsOk.f k l0_0 l0_1 l1).bind fun t240 => (if t240 = true then ((impl_in.f a2 0 200).bind fun t241 => (impl_RunRing.j0 k l1 a2 (!t241) l0_0 l0_1)) else (impl_RunRing.j0 k l1 a2 true l0_0 l0_1))) = some (r1, r2, r3) := h
 clear h; have HC4 := Aside0.mk H; clear H
 go_enter Try.func17, Try.ntmps17
 go_upto_region 1 with (first | ((with_reducible refine gate_dst (N := 3) rfl ?_); refine box_event ?hg (N := 3) ?hd (cs := #[.slice A0_0 l0_0.length c0_0, .slice A0_1 l0_1.length c0_1]) (t := 26) ?hr ?_; (case hd => rfl); (case hg => rfl); (case hr => first | (go_simp; done) | (go_simp; rfl)); intro gb238 hg w5 hbox hb; have BK238 := Aside0.mk (hbox); have GW238 := gE_ HB hg; have GE238 := gE_ HB hg; replace HB := bS_ HB hb; clear hb hbox hg) | ((with_reducible refine gate_dst (N := 6) rfl ?_); refine box_event ?hg (N := 6) ?hd (cs := #[.slice none 0 0, .slice none 0 0]) (t := 26) ?hr ?_; (case hd => rfl); (case hg => rfl); (case hr => first | (go_simp; done) | (go_simp; rfl)); intro gb239 hg w6 hbox hb; have BK239 := Aside0.mk (hbox); have GW239 := gE_ HB hg; have GE239 := gE_ HB hg; replace HB := bS_ HB hb; have NB238_239 := nL_ BK238 hg; have NB239_238 := nG_ BK238 hg; replace BK238 := bB_ BK238 hb; clear hb hbox hg))
 (try simp only [Act.put, List.setIfInBounds_toArray, List.set_cons_zero, List.set_cons_succ])
 go_cut [17] (fun v17 wc => ∃ (kq : Nat) (x17_3 : Bool), v17 = .bool x17_3 ∧ Aside0 (impl_RunRing.j0 kq l1 a2 x17_3 l0_0 l0_1 = some (r1, r2, r3)) ∧ Aside0 (kq ≤ k) ∧ Aside0 (wc.heap[gb238]? = some (.cells #[(.slice A0_0 l0_0.length c0_0), (.slice A0_1 l0_1.length c0_1)] 26 (0, 0))) ∧ Aside0 (wc.heap[gb239]? = some (.cells #[(.slice none 0 0), (.slice none 0 0)] 26 (0, 0))) ∧ Aside0 (Below w.heap.size w wc))
 case first =>
  have H := HC4.out; clear HC4; replace H := Option.bind_eq_some_iff.mp H
  obtain ⟨t240, A70, H⟩ := H
  replace H : (if t240 = true then ((impl_in.f a2 0 200).bind fun t241 => (impl_RunRing.j0 k l1 a2 (!t241) l0_0 l0_1)) else (impl_RunRing.j0 k l1 a2 true l0_0 l0_1)) = some (r1, r2, r3) := H
  have A7 := Aside0.mk A70; clear A70
  by_cases c8 : t240 = true
  ·subst c8
   have H1 : ((impl_in.f a2 0 200).bind fun t241 => (impl_RunRing.j0 k l1 a2 (!t241) l0_0 l0_1)) = some (r1, r2, r3) := by rw [if_pos rfl] at H; exact H
   clear H; have H := H1; clear H1; replace H := Option.bind_eq_some_iff.mp H
   obtain ⟨t241, A90, H⟩ := H
   replace H : (impl_RunRing.j0 k l1 a2 (!t241) l0_0 l0_1) = some (r1, r2, r3) := H
   have A9 := Aside0.mk A90; clear A90; have H' := Aside0.mk H; clear H; have hnb10 := NB238_239.out; have hnc10 := NB239_238.out
   have hcz11_0 : w6.cell? ⟨gb238, 0, none⟩ = some (.slice A0_0 l0_0.length c0_0) := (blk_cell BK238.out 0).trans rfl
   have hcz11_1 : w6.cell? ⟨gb238, 1, none⟩ = some (.slice A0_1 l0_1.length c0_1) := (blk_cell BK238.out 1).trans rfl
   have hfz11_0 := blk_frozen BK238.out 0; have hfz11_1 := blk_frozen BK238.out 1
   go_wp2_with (first | ((with_reducible refine gate_callee (f := 28) rfl ?_); refine gL_ (some 11) Try.func28 #[.agg #[.slice A0_0 l0_0.length c0_0, .slice A0_1 l0_1.length c0_1], .slice A1 l1.length c1] ?_; (with_reducible refine (impl_windsOk.calls k _ _ l0_0 _ _ l0_1 _ _ l1 true _ ?side1 ?side2 ?side3 ?side4 ?side5 ?side6 A7.out).mono ?_); (case side1 => exact cB_ HR0_0 HB); (case side2 => exact HC0_0.out); (case side3 => exact cB_ HR0_1 HB); (case side4 => exact HC0_1.out); (case side5 => exact cB_ HR1 HB); (case side6 => exact HC1.out); rintro e w12 ⟨rfl, hb⟩; refine ⟨_, rfl, ?_⟩; replace BK238 := bB_ BK238 hb; replace BK239 := bB_ BK239 hb; replace HB := bS_ HB hb; (try clear hb); (try clear hb2); (try clear hk); (try clear hi)) | (go_at_call 29; (with_reducible refine (impl_in.calls a2 0 200 t241 _ A9.out).mono ?_); rintro e w' ⟨rfl, ⟨nd, rfl⟩⟩))
   go_meet
   case rel => exact ⟨_, (!t241), (by first | rfl | (simp; done) | (simp [*]; done)), H', ⟨by first | omega | exact Nat.le_refl _⟩, ⟨by exact bT_ BK238⟩, ⟨by exact bT_ BK239⟩, ⟨sABelo_6⟩⟩
  ·replace c8 := Bool.eq_false_iff.mpr c8
   subst c8
   have H1 : (impl_RunRing.j0 k l1 a2 true l0_0 l0_1) = some (r1, r2, r3) := by rw [if_neg (show ¬ (false = true) by decide)] at H; exact H
   clear H; have H := H1; clear H1; have H' := Aside0.mk H; clear H; have hnb13 := NB238_239.out; have hnc13 := NB239_238.out
   have hcz14_0 : w6.cell? ⟨gb238, 0, none⟩ = some (.slice A0_0 l0_0.length c0_0) := (blk_cell BK238.out 0).trans rfl
   have hcz14_1 : w6.cell? ⟨gb238, 1, none⟩ = some (.slice A0_1 l0_1.length c0_1) := (blk_cell BK238.out 1).trans rfl
   have hfz14_0 := blk_frozen BK238.out 0; have hfz14_1 := blk_frozen BK238.out 1
   go_wp2_with (first | ((with_reducible refine gate_callee (f := 28) rfl ?_); refine gL_ (some 11) Try.func28 #[.agg #[.slice A0_0 l0_0.length c0_0, .slice A0_1 l0_1.length c0_1], .slice A1 l1.length c1] ?_; (with_reducible refine (impl_windsOk.calls k _ _ l0_0 _ _ l0_1 _ _ l1 false _ ?side1 ?side2 ?side3 ?side4 ?side5 ?side6 A7.out).mono ?_); (case side1 => exact cB_ HR0_0 HB); (case side2 => exact HC0_0.out); (case side3 => exact cB_ HR0_1 HB); (case side4 => exact HC0_1.out); (case side5 => exact cB_ HR1 HB); (case side6 => exact HC1.out); rintro e w15 ⟨rfl, hb⟩; refine ⟨_, rfl, ?_⟩; replace BK238 := bB_ BK238 hb; replace BK239 := bB_ BK239 hb; replace HB := bS_ HB hb; (try clear hb); (try clear hb2); (try clear hk); (try clear hi)))
   go_meet
   case rel => exact ⟨_, (true), (by first | rfl | (simp; done) | (simp [*]; done)), H', ⟨by first | omega | exact Nat.le_refl _⟩, ⟨by exact bT_ BK238⟩, ⟨by exact bT_ BK239⟩, ⟨sABelo_6⟩⟩
 case rest =>
  clear HC4; (try clear c1); (try clear c2); (try clear p2); (try clear c8); (try clear c10); (try clear c13); (try clear hcz11_0); (try clear hcz11_1); (try clear hcz14_0); (try clear hcz14_1); (try clear hfz11_0); (try clear hfz11_1); (try clear hfz14_0); (try clear hfz14_1)
  obtain ⟨kq, x17_3, rfl, HA, HJ3, BK238, BK239, HB⟩ := hcut
  cases kq with
  | zero => exact absurd HA.out (by simp [impl_RunRing.j0])
  | succ kj3 =>
   have H := HA.out; clear HA
   simp only [impl_RunRing.j0] at H
   by_cases c16 : x17_3 = true
   ·subst c16
    have H1 : (some (([] : List Int), ([] : List Int), false)) = some (r1, r2, r3) := by rw [if_pos rfl] at H; exact H
    clear H; have H := H1; clear H1
    simp only [Option.some.injEq, Prod.mk.injEq] at H
    obtain ⟨rfl, rfl, rfl⟩ := H
    have hnb17 := NB239_238.out; have hnc17 := NB238_239.out
    have hcz18_0 : wc.cell? ⟨gb239, 0, none⟩ = some (.slice none 0 0) := (blk_cell BK239.out 0).trans rfl
    have hcz18_1 : wc.cell? ⟨gb239, 1, none⟩ = some (.slice none 0 0) := (blk_cell BK239.out 1).trans rfl
    have hfz18_0 := blk_frozen BK239.out 0; have hfz18_1 := blk_frozen BK239.out 1
    go_wp2
    refine bodyPost_ret (results_ct rfl _ _ gb239 26 #[.slice none 0 0, .slice none 0 0] (0, 0) _ rfl (by (with_reducible repeat (first | refine blk_drewN ?_ _ | refine blk_drew ?_ | refine blk_alloc ?_ _)); refine blk_put (cs := #[.slice none 0 0, .slice none 0 0]) ?_ 1 _ rfl; (with_reducible repeat (first | refine blk_drewN ?_ _ | refine blk_drew ?_ | refine blk_alloc ?_ _)); refine blk_put (cs := #[.slice none 0 0, .slice none 0 0]) ?_ 0 _ rfl; exact bT_ BK239) Try.underlying26 rfl (by kernel_rfl)) rfl ?_
    exact ⟨_, _, by first | rfl | (simp [errW_none, errW_some] <;> rfl) | (simp [*, errW_none, errW_some] <;> rfl), by first | exact Kd.R_nil _ _ _ _ _ | exact Kd.N_nil _ _ _ _ _ | exact Kd.V_nil _ _ _ _ _ | exact Kd.Q_nil _ _ _ _ _ | exact Kd.S_nil _ _ _ _ _, by first | exact Kd.R_nil _ _ _ _ _ | exact Kd.N_nil _ _ _ _ _ | exact Kd.V_nil _ _ _ _ _ | exact Kd.Q_nil _ _ _ _ _ | exact Kd.S_nil _ _ _ _ _, sABelo_6⟩
   ·replace c16 := Bool.eq_false_iff.mpr c16
    subst c16
    have H1 : ((slices_Clone_int64_int64.f l0_0).bind fun t242 => ((slices_Clone_int64_int64.f l0_1).bind fun t245 => (impl_RunRing.l0 kj3 l1 a2 t242 t245))) = some (r1, r2, r3) := by rw [if_neg (show ¬ (false = true) by decide)] at H; exact H
    clear H; have H := H1; clear H1; replace H := Option.bind_eq_some_iff.mp H
    obtain ⟨t242, A190, H⟩ := H
    replace H : ((slices_Clone_int64_int64.f l0_1).bind fun t245 => (impl_RunRing.l0 kj3 l1 a2 t242 t245)) = some (r1, r2, r3) := H
    have A19 := Aside0.mk A190; clear A190; replace H := Option.bind_eq_some_iff.mp H
    obtain ⟨t245, A200, H⟩ := H
    replace H : (impl_RunRing.l0 kj3 l1 a2 t242 t245) = some (r1, r2, r3) := H
    have A20 := Aside0.mk A200; clear A200; have H' := Aside0.mk H; clear H
    try go_wp2
    replace BK238 := Aside0.mk (blk_drew BK238.out)
    replace BK239 := Aside0.mk (blk_drew BK239.out)
    replace HB := Aside0.mk (below_drew1 HB.out)
    refine start_ (n := 9) (S := fun w' => w'.cell? ⟨gb238, 0, none⟩ = some (.slice A0_0 l0_0.length c0_0) ∧ w'.cell? ⟨gb238, 1, none⟩ = some (.slice A0_1 l0_1.length c0_1)) (ds := []) #[false, false, false, false, false, false, false, false, false] (by kernel_rfl) rfl rfl ⟨(blk_cell BK238.out 0).trans rfl, (blk_cell BK238.out 1).trans rfl⟩ (fun hHeld => ?_); refine with_tabW impl_RunRing.tab3 impl_RunRing.bits3 (fun HT_ HW_ => ?_)
    generalize wc.drew = w21 at BK238 BK239 HB hHeld ⊢
    refine pT_ 0 (some 19) #[true, false, false, false, false, false, false, false, false] HT_ ?_
    refine pT_ 3 (some 22) #[true, false, false, true, false, false, false, false, false] HT_ ?_
    refine tT_ 1 (some 20) #[true, true, false, true, false, false, false, false, false] HT_ HW_ hHeld ?_ (hy := by rintro w' ⟨s0, s1⟩; go_simp; with_reducible rfl)
    refine tT_ 4 (some 23) #[true, true, false, true, true, false, false, false, false] HT_ HW_ hHeld ?_ (hy := by rintro w' ⟨s0, s1⟩; go_simp; with_reducible rfl)
    refine join_ (σ := Value × Value × Nat) 1 #[true, true, true, true, true, true, true, true, false] (fun s_ => [(21, s_.1), (24, s_.2.1), (8, .pointer (some ⟨s_.2.2, 0, none⟩)), (25, .agg #[s_.1, s_.2.1])]) (fun s_ w' => (w'.cell? ⟨gb238, 0, none⟩ = some (.slice A0_0 l0_0.length c0_0) ∧ w'.cell? ⟨gb238, 1, none⟩ = some (.slice A0_1 l0_1.length c0_1)) ∧ (Kd.R (Kd.int .i64) 2 w' w.heap.size (fun k_ => some k_ ≠ (s_.2.1 : Value).ownBlock) s_.1 t242) ∧ (Kd.R (Kd.int .i64) 2 w' w.heap.size (fun k_ => some k_ ≠ (s_.1 : Value).ownBlock) s_.2.1 t245) ∧ (w'.heap[gb238]? = some (.cells #[.slice A0_0 l0_0.length c0_0, .slice A0_1 l0_1.length c0_1] 26 (0, 0))) ∧ (w'.heap[gb239]? = some (.cells #[.slice none 0 0, .slice none 0 0] 26 (0, 0))) ∧ (w'.heap[s_.2.2]? = some (.cells #[.slice none 0 0, .slice none 0 0] 26 (0, 0))) ∧ (w.heap.size ≤ s_.2.2) ∧ (w.heap.size ≤ s_.2.2) ∧ (gb238 ≠ s_.2.2) ∧ (s_.2.2 ≠ gb238) ∧ (gb239 ≠ s_.2.2) ∧ (s_.2.2 ≠ gb239) ∧ (Below w.heap.size w w')) ?_ ?_
    rotate_left
    ·intro hCont
     refine two_ (i := 2) (j := 7) (Ni := some 21) (Nj := some 8) #[true, true, true, true, true, false, false, false, false] #[true, true, false, true, true, false, false, true, false] rfl rfl rfl rfl (two_of HT_.out (by kernel_rfl)) (by decide) (by decide) (fun K hK => ?_) (fun K hK => ?_)
     ·skip
      refine goes_ Try.func32 (by kernel_rfl) rfl #[.slice A0_0 l0_0.length c0_0] (by rfl) rfl rfl (by (try simp only [List.map_toArray, List.map_cons, List.map_nil]); first | done | rfl | (simp only [List.length_drop, List.length_take]; rfl)) ?_
      with_reducible refine (slices_Clone_int64_int64.calls _ _ l0_0 t242 _ ?side1 ?side2 A19.out).mono ?_
      (case side1 => exact cB_ HR0_0 HB)
      (case side2 => exact HC0_0.out)
      rintro e w22 ⟨v243, rfl, ho0, hb⟩
      refine ⟨_, rfl, ?_⟩
      have HO244 := rL_ ho0 HB; replace BK238 := bB_ BK238 hb; replace BK239 := bB_ BK239 hb; replace HB := bS_ HB hb; (try clear hb); (try clear hb2); (try clear hk); (try clear hi); (try clear ho0)
      refine hK.out _ _ ⟨(blk_cell BK238.out 0).trans rfl, (blk_cell BK238.out 1).trans rfl⟩ (fun hHeld => ?_)
      clear hK K
      refine nS_ (some 21) ?_
      refine two_ (i := 5) (j := 7) (Ni := some 24) (Nj := some 8) #[true, true, true, true, true, true, false, false, false] #[true, true, true, true, true, false, false, true, false] rfl rfl rfl rfl (two_of HT_.out (by kernel_rfl)) (by decide) (by decide) (fun K hK => ?_) (fun K hK => ?_)
      ·skip
       refine goes_ Try.func32 (by kernel_rfl) rfl #[.slice A0_1 l0_1.length c0_1] (by rfl) rfl rfl (by (try simp only [List.map_toArray, List.map_cons, List.map_nil]); first | done | rfl | (simp only [List.length_drop, List.length_take]; rfl)) ?_
       with_reducible refine (slices_Clone_int64_int64.calls _ _ l0_1 t245 _ ?side1 ?side2 A20.out).mono ?_
       (case side1 => exact cB_ HR0_1 HB)
       (case side2 => exact HC0_1.out)
       rintro e w23 ⟨v246, rfl, ho0, hb⟩
       refine ⟨_, rfl, ?_⟩
       have HO247 := rL_ (rN_ ho0 HO244) HB
       replace HO244 := rE_ HO244 ho0 hb; replace BK238 := bB_ BK238 hb; replace BK239 := bB_ BK239 hb; replace HB := bS_ HB hb; (try clear hb); (try clear hb2); (try clear hk); (try clear hi); (try clear ho0)
       obtain ⟨Ao24, co24, eo24⟩ := Kd.R_slice HO247.out
       (first | subst eo24 | (injection eo24 with f1_ f2_ f3_; have f4_ := f1_.symm; have f5_ := f3_.symm; clear f1_ f2_ f3_; subst f4_; subst f5_))
       obtain ⟨Ao25, co25, eo25⟩ := Kd.R_slice HO244.out
       (first | subst eo25 | (injection eo25 with f1_ f2_ f3_; have f4_ := f1_.symm; have f5_ := f3_.symm; clear f1_ f2_ f3_; subst f4_; subst f5_))
       refine hK.out _ _ ⟨(blk_cell BK238.out 0).trans rfl, (blk_cell BK238.out 1).trans rfl⟩ (fun hHeld => ?_)
       clear hK K
       refine nS_ (some 24) ?_
       refine pT_ 6 (some 25) #[true, true, true, true, true, true, true, false, false] HT_ ?_
       refine one_ (i := 7) (N := some 8) #[true, true, true, true, true, true, true, true, false] rfl rfl (one_of HT_.out (by kernel_rfl)) (by decide) (fun K hK => ?_)
       refine box_step ?hg (N := 8) ?hd (cs := #[.slice none 0 0, .slice none 0 0]) (t := 26) ?hr ?_; (case hd => rfl); (case hg => rfl); (case hr => first | (go_simp; done) | (go_simp; rfl))
       intro gb248 hg w26 hbox hb
       replace HO244 := rB_ HO244 hb; replace HO247 := rB_ HO247 hb
       have BK248 := Aside0.mk (hbox)
       have GW248 := gE_ HB hg; have GE248 := gE_ HB hg; replace HB := bS_ HB hb; have NB238_248 := nL_ BK238 hg; have NB248_238 := nG_ BK238 hg; replace BK238 := bB_ BK238 hb; have NB239_248 := nL_ BK239 hg; have NB248_239 := nG_ BK239 hg; replace BK239 := bB_ BK239 hb; clear hb hbox hg
       refine hK.out _ _ ⟨(blk_cell BK238.out 0).trans rfl, (blk_cell BK238.out 1).trans rfl⟩ (fun hHeld => ?_)
       clear hK K
       refine nS_ (some 8) ?_
       exact norm_ (by simp only [putAll, Act.put, List.setIfInBounds_toArray, List.set_cons_zero, List.set_cons_succ]) (hCont (.slice Ao25 t242.length co25, .slice Ao24 t245.length co24, gb248) _ ⟨hHeld, (rM_ HO244), (rM_ HO247), (bT_ BK238), (bT_ BK239), (bT_ BK248), GW248.out, GE248.out, NB238_248.out, NB248_238.out, NB239_248.out, NB248_239.out, sABelo_6⟩)
      ·skip
       refine box_step ?hg (N := 8) ?hd (cs := #[.slice none 0 0, .slice none 0 0]) (t := 26) ?hr ?_; (case hd => rfl); (case hg => rfl); (case hr => first | (go_simp; done) | (go_simp; rfl))
       intro gb248 hg w23 hbox hb
       replace HO244 := rB_ HO244 hb
       have BK248 := Aside0.mk (hbox)
       have GW248 := gE_ HB hg; have GE248 := gE_ HB hg; replace HB := bS_ HB hb; have NB238_248 := nL_ BK238 hg; have NB248_238 := nG_ BK238 hg; replace BK238 := bB_ BK238 hb; have NB239_248 := nL_ BK239 hg; have NB248_239 := nG_ BK239 hg; replace BK239 := bB_ BK239 hb; clear hb hbox hg
       refine hK.out _ _ ⟨(blk_cell BK238.out 0).trans rfl, (blk_cell BK238.out 1).trans rfl⟩ (fun hHeld => ?_)
       clear hK K
       refine nS_ (some 8) ?_
       refine one_ (i := 5) (N := some 24) #[true, true, true, true, true, true, false, true, false] rfl rfl (one_of HT_.out (by kernel_rfl)) (by decide) (fun K hK => ?_)
       refine goes_ Try.func32 (by kernel_rfl) rfl #[.slice A0_1 l0_1.length c0_1] (by rfl) rfl rfl (by (try simp only [List.map_toArray, List.map_cons, List.map_nil]); first | done | rfl | (simp only [List.length_drop, List.length_take]; rfl)) ?_
       with_reducible refine (slices_Clone_int64_int64.calls _ _ l0_1 t245 _ ?side1 ?side2 A20.out).mono ?_
       (case side1 => exact cB_ HR0_1 HB)
       (case side2 => exact HC0_1.out)
       rintro e w24 ⟨v246, rfl, ho0, hb⟩
       refine ⟨_, rfl, ?_⟩
       have HO247 := rL_ (rN_ ho0 HO244) HB
       replace HO244 := rE_ HO244 ho0 hb; replace BK238 := bB_ BK238 hb; replace BK239 := bB_ BK239 hb; replace BK248 := bB_ BK248 hb; replace HB := bS_ HB hb; (try clear hb); (try clear hb2); (try clear hk); (try clear hi); (try clear ho0)
       obtain ⟨Ao25, co25, eo25⟩ := Kd.R_slice HO247.out
       (first | subst eo25 | (injection eo25 with f1_ f2_ f3_; have f4_ := f1_.symm; have f5_ := f3_.symm; clear f1_ f2_ f3_; subst f4_; subst f5_))
       obtain ⟨Ao26, co26, eo26⟩ := Kd.R_slice HO244.out
       (first | subst eo26 | (injection eo26 with f1_ f2_ f3_; have f4_ := f1_.symm; have f5_ := f3_.symm; clear f1_ f2_ f3_; subst f4_; subst f5_))
       refine hK.out _ _ ⟨(blk_cell BK238.out 0).trans rfl, (blk_cell BK238.out 1).trans rfl⟩ (fun hHeld => ?_)
       clear hK K
       refine nS_ (some 24) ?_
       refine pT_ 6 (some 25) #[true, true, true, true, true, true, true, true, false] HT_ ?_
       exact norm_ (by simp only [putAll, Act.put, List.setIfInBounds_toArray, List.set_cons_zero, List.set_cons_succ]) (hCont (.slice Ao26 t242.length co26, .slice Ao25 t245.length co25, gb248) _ ⟨hHeld, (rM_ HO244), (rM_ HO247), (bT_ BK238), (bT_ BK239), (bT_ BK248), GW248.out, GE248.out, NB238_248.out, NB248_238.out, NB239_248.out, NB248_239.out, sABelo_6⟩)
     ·skip
      refine box_step ?hg (N := 8) ?hd (cs := #[.slice none 0 0, .slice none 0 0]) (t := 26) ?hr ?_; (case hd => rfl); (case hg => rfl); (case hr => first | (go_simp; done) | (go_simp; rfl))
      intro gb248 hg w22 hbox hb
      have BK248 := Aside0.mk (hbox)
      have GW248 := gE_ HB hg; have GE248 := gE_ HB hg; replace HB := bS_ HB hb; have NB238_248 := nL_ BK238 hg; have NB248_238 := nG_ BK238 hg; replace BK238 := bB_ BK238 hb; have NB239_248 := nL_ BK239 hg; have NB248_239 := nG_ BK239 hg; replace BK239 := bB_ BK239 hb; clear hb hbox hg
      refine hK.out _ _ ⟨(blk_cell BK238.out 0).trans rfl, (blk_cell BK238.out 1).trans rfl⟩ (fun hHeld => ?_)
      clear hK K
      refine nS_ (some 8) ?_
      refine one_ (i := 2) (N := some 21) #[true, true, true, true, true, false, false, true, false] rfl rfl (one_of HT_.out (by kernel_rfl)) (by decide) (fun K hK => ?_)
      refine goes_ Try.func32 (by kernel_rfl) rfl #[.slice A0_0 l0_0.length c0_0] (by rfl) rfl rfl (by (try simp only [List.map_toArray, List.map_cons, List.map_nil]); first | done | rfl | (simp only [List.length_drop, List.length_take]; rfl)) ?_
      with_reducible refine (slices_Clone_int64_int64.calls _ _ l0_0 t242 _ ?side1 ?side2 A19.out).mono ?_
      (case side1 => exact cB_ HR0_0 HB)
      (case side2 => exact HC0_0.out)
      rintro e w23 ⟨v243, rfl, ho0, hb⟩
      refine ⟨_, rfl, ?_⟩
      have HO244 := rL_ ho0 HB; replace BK238 := bB_ BK238 hb; replace BK239 := bB_ BK239 hb; replace BK248 := bB_ BK248 hb; replace HB := bS_ HB hb; (try clear hb); (try clear hb2); (try clear hk); (try clear hi); (try clear ho0)
      refine hK.out _ _ ⟨(blk_cell BK238.out 0).trans rfl, (blk_cell BK238.out 1).trans rfl⟩ (fun hHeld => ?_)
      clear hK K
      refine nS_ (some 21) ?_
      refine one_ (i := 5) (N := some 24) #[true, true, true, true, true, true, false, true, false] rfl rfl (one_of HT_.out (by kernel_rfl)) (by decide) (fun K hK => ?_)
      refine goes_ Try.func32 (by kernel_rfl) rfl #[.slice A0_1 l0_1.length c0_1] (by rfl) rfl rfl (by (try simp only [List.map_toArray, List.map_cons, List.map_nil]); first | done | rfl | (simp only [List.length_drop, List.length_take]; rfl)) ?_
      with_reducible refine (slices_Clone_int64_int64.calls _ _ l0_1 t245 _ ?side1 ?side2 A20.out).mono ?_
      (case side1 => exact cB_ HR0_1 HB)
      (case side2 => exact HC0_1.out)
      rintro e w24 ⟨v246, rfl, ho0, hb⟩
      refine ⟨_, rfl, ?_⟩
      have HO247 := rL_ (rN_ ho0 HO244) HB
      replace HO244 := rE_ HO244 ho0 hb; replace BK238 := bB_ BK238 hb; replace BK239 := bB_ BK239 hb; replace BK248 := bB_ BK248 hb; replace HB := bS_ HB hb; (try clear hb); (try clear hb2); (try clear hk); (try clear hi); (try clear ho0)
      obtain ⟨Ao25, co25, eo25⟩ := Kd.R_slice HO247.out
      (first | subst eo25 | (injection eo25 with f1_ f2_ f3_; have f4_ := f1_.symm; have f5_ := f3_.symm; clear f1_ f2_ f3_; subst f4_; subst f5_))
      obtain ⟨Ao26, co26, eo26⟩ := Kd.R_slice HO244.out
      (first | subst eo26 | (injection eo26 with f1_ f2_ f3_; have f4_ := f1_.symm; have f5_ := f3_.symm; clear f1_ f2_ f3_; subst f4_; subst f5_))
      refine hK.out _ _ ⟨(blk_cell BK238.out 0).trans rfl, (blk_cell BK238.out 1).trans rfl⟩ (fun hHeld => ?_)
      clear hK K
      refine nS_ (some 24) ?_
      refine pT_ 6 (some 25) #[true, true, true, true, true, true, true, true, false] HT_ ?_
      exact norm_ (by simp only [putAll, Act.put, List.setIfInBounds_toArray, List.set_cons_zero, List.set_cons_succ]) (hCont (.slice Ao26 t242.length co26, .slice Ao25 t245.length co25, gb248) _ ⟨hHeld, (rM_ HO244), (rM_ HO247), (bT_ BK238), (bT_ BK239), (bT_ BK248), GW248.out, GE248.out, NB238_248.out, NB248_238.out, NB239_248.out, NB248_239.out, sABelo_6⟩)
    rintro ⟨v243, v246, gb248⟩ w27 ⟨hS_, h0_, h1_, h2_, h3_, h4_, h5_, h6_, h7_, h8_, h9_, h10_, h11_⟩
    try dsimp only at h0_ h1_ h2_ h3_ h4_ h5_ h6_ h7_ h8_ h9_ h10_ h11_
    have HO244 := Aside0.mk h0_; have HO247 := Aside0.mk h1_; replace BK238 := Aside0.mk h2_; replace BK239 := Aside0.mk h3_; have BK248 := Aside0.mk h4_; have GW248 := Aside0.mk h5_; have GE248 := Aside0.mk h6_; have NB238_248 := Aside0.mk h7_; have NB248_238 := Aside0.mk h8_; have NB239_248 := Aside0.mk h9_; have NB248_239 := Aside0.mk h10_; replace HB := Aside0.mk h11_; clear h0_ h1_ h2_ h3_ h4_ h5_ h6_ h7_ h8_ h9_ h10_ h11_
    have hHeld : w27.cell? ⟨gb238, 0, none⟩ = some (.slice A0_0 l0_0.length c0_0) ∧ w27.cell? ⟨gb238, 1, none⟩ = some (.slice A0_1 l0_1.length c0_1) := hS_
    obtain ⟨Ao28, co28, eo28⟩ := Kd.R_slice HO247.out
    (first | subst eo28 | (injection eo28 with f1_ f2_ f3_; have f4_ := f1_.symm; have f5_ := f3_.symm; clear f1_ f2_ f3_; subst f4_; subst f5_))
    obtain ⟨Ao29, co29, eo29⟩ := Kd.R_slice HO244.out
    (first | subst eo29 | (injection eo29 with f1_ f2_ f3_; have f4_ := f1_.symm; have f5_ := f3_.symm; clear f1_ f2_ f3_; subst f4_; subst f5_))
    refine norm_ (a' := ?_) ?_ ?_
    rotate_left
    ·simp only [putAll, Act.put, List.setIfInBounds_toArray, List.set_cons_zero, List.set_cons_succ]
     rfl
    refine one_ (i := 8) (N := none) #[true, true, true, true, true, true, true, true, true] rfl rfl (one_of HT_.out (by kernel_rfl)) (by decide) (fun K hK => ?_)
    have hs30 : w27.cell? ⟨gb248, 0, none⟩ = some (.slice none 0 0) := (blk_cell BK248.out 0).trans rfl
    have hfs30 := blk_frozen BK248.out 0; have hns30_0 := NB238_248.out; have hns30_1 := NB239_248.out; have hms30_0 := NB248_238.out; have hms30_1 := NB248_239.out
    have hs31 : w27.cell? ⟨gb248, 1, none⟩ = some (.slice none 0 0) := (blk_cell BK248.out 1).trans rfl
    have hfs31 := blk_frozen BK248.out 1; have hns31_0 := NB238_248.out; have hns31_1 := NB239_248.out; have hms31_0 := NB248_238.out; have hms31_1 := NB248_239.out
    refine skip_ (w1 := ?_) (by rfl) rfl ?_ ?_
    rotate_left
    ·go_simp
     rfl
    refine hK.out _ _ ⟨((cell_far (p := ⟨gb248, _, none⟩) NB238_248.out _).trans (((cell_far (p := ⟨gb248, _, none⟩) NB238_248.out _).trans (hHeld.1)))), ((cell_far (p := ⟨gb248, _, none⟩) NB238_248.out _).trans (((cell_far (p := ⟨gb248, _, none⟩) NB238_248.out _).trans (hHeld.2))))⟩ (fun hHeld => ?_)
    clear hK K
    refine done_ (done_of HT_.out (by kernel_rfl)) ?_
    try go_wp2
    go_loopg [2] kj3 (fun kq v2 w' => ∃ (x2_2 : Int) (x249000_2 : List Int) (x249001_2 : List Int) (u249000 : Value) (u249001 : Value), v2 = .int .i64 x2_2 ∧ Aside0 (impl_RunRing.l0 kq l1 x2_2 x249000_2 x249001_2 = some (r1, r2, r3)) ∧ Aside0 (kq ≤ kj3) ∧ Aside0 (Kd.R (Kd.int .i64) 2 w' w.heap.size (fun k_ => some k_ ≠ (u249001 : Value).ownBlock) u249000 x249000_2) ∧ Aside0 (Kd.R (Kd.int .i64) 2 w' w.heap.size (fun k_ => some k_ ≠ (u249000 : Value).ownBlock) u249001 x249001_2) ∧ Aside0 (w'.heap[gb238]? = some (.cells #[(.slice A0_0 l0_0.length c0_0), (.slice A0_1 l0_1.length c0_1)] 26 (0, 0))) ∧ Aside0 (w'.heap[gb239]? = some (.cells #[(.slice none 0 0), (.slice none 0 0)] 26 (0, 0))) ∧ Aside0 (w'.heap[gb248]? = some (.cells #[u249000, u249001] 26 (0, 0))) ∧ Aside0 (Below w.heap.size w w'))
    case atStart => exact ⟨(a2), (t242), (t245), (.slice Ao29 t242.length co29), (.slice Ao28 t245.length co28), (by first | rfl | (simp; done) | (simp [*]; done)), H', ⟨Nat.le_refl _⟩, ⟨by (with_reducible repeat (first | apply Kd.R_alloc | apply Kd.R_drewN | apply Kd.R_drew)); exact Kd.R_mono (Kd.R_far (p := ⟨gb248, 1, none⟩) (Kd.R_far (p := ⟨gb248, 0, none⟩) (Kd.R_types HO244.out BK248.out (by decide)) (fun _ hk => hk.2) (.slice Ao29 t242.length co29)) (fun _ hk => hk.2) (.slice Ao28 t245.length co28)) (fun _ hk => hk.1)⟩, ⟨by (with_reducible repeat (first | apply Kd.R_alloc | apply Kd.R_drewN | apply Kd.R_drew)); exact Kd.R_mono (Kd.R_far (p := ⟨gb248, 1, none⟩) (Kd.R_far (p := ⟨gb248, 0, none⟩) (Kd.R_types HO247.out BK248.out (by decide)) (fun _ hk => hk.2) (.slice Ao29 t242.length co29)) (fun _ hk => hk.2) (.slice Ao28 t245.length co28)) (fun _ hk => hk.1)⟩, ⟨by (with_reducible repeat (first | refine blk_drewN ?_ _ | refine blk_drew ?_ | refine blk_alloc ?_ _)); refine blk_far ?_ NB238_248.out _; (with_reducible repeat (first | refine blk_drewN ?_ _ | refine blk_drew ?_ | refine blk_alloc ?_ _)); refine blk_far ?_ NB238_248.out _; exact bT_ BK238⟩, ⟨by (with_reducible repeat (first | refine blk_drewN ?_ _ | refine blk_drew ?_ | refine blk_alloc ?_ _)); refine blk_far ?_ NB239_248.out _; (with_reducible repeat (first | refine blk_drewN ?_ _ | refine blk_drew ?_ | refine blk_alloc ?_ _)); refine blk_far ?_ NB239_248.out _; exact bT_ BK239⟩, ⟨by (with_reducible repeat (first | refine blk_drewN ?_ _ | refine blk_drew ?_ | refine blk_alloc ?_ _)); refine blk_put (cs := #[.slice Ao29 t242.length co29, .slice none 0 0]) ?_ 1 _ rfl; (with_reducible repeat (first | refine blk_drewN ?_ _ | refine blk_drew ?_ | refine blk_alloc ?_ _)); refine blk_put (cs := #[.slice none 0 0, .slice none 0 0]) ?_ 0 _ rfl; exact bT_ BK248⟩, ⟨sABelo_6⟩⟩
    case round =>
     clear H'; (try clear c1); (try clear c2); (try clear p2); (try clear c3); (try clear c8); (try clear c10); (try clear c13); (try clear c16); (try clear c17); (try clear c28); (try clear hcz11_0); (try clear hcz11_1); (try clear hcz14_0); (try clear hcz14_1); (try clear hcz18_0); (try clear hcz18_1); (try clear hfz11_0); (try clear hfz11_1); (try clear hfz14_0); (try clear hfz14_1); (try clear hfz18_0); (try clear hfz18_1); (try clear p2)
     obtain ⟨x2_2, x249000_2, x249001_2, u249000, u249001, rfl, HA, HK2, HO_249000, HO_249001, BK238, BK239, BK248, HB⟩ := hrel
     cases gk with
     | zero => exact absurd HA.out (by simp [impl_RunRing.l0])
     | succ k2 =>
      have H := HA.out; clear HA
      simp only [impl_RunRing.l0] at H
      by_cases c32 : x2_2 > 0
      ·rw [if_pos c32] at H
       have c32b0 : decide (0 < x2_2) = true := decide_eq_true c32
       clear c32; replace H := Option.bind_eq_some_iff.mp H
       obtain ⟨⟨t249, t252⟩, A330, H⟩ := H
       replace H : (impl_RunRing.l0 k2 l1 (wrap64 (x2_2 - 1)) t249 t252) = some (r1, r2, r3) := H
       have A33 := Aside0.mk A330; clear A330; have H' := Aside0.mk H; clear H; have hnb34 := NB248_238.out; have hnc34 := NB238_248.out; have hnb35 := NB248_239.out; have hnc35 := NB239_248.out
       have hcz36_0 : wr.cell? ⟨gb248, 0, none⟩ = some (u249000) := (blk_cell BK248.out 0).trans rfl
       have hcz36_1 : wr.cell? ⟨gb248, 1, none⟩ = some (u249001) := (blk_cell BK248.out 1).trans rfl
       have hfz36_0 := blk_frozen BK248.out 0; have hfz36_1 := blk_frozen BK248.out 1
       obtain ⟨Ao37, co37, eo37⟩ := Kd.R_slice HO_249000.out
       subst eo37
       obtain ⟨Ao38, co38, eo38⟩ := Kd.R_slice HO_249001.out
       subst eo38
       go_wp2_with (first | ((with_reducible refine gate_callee (f := 30) rfl ?_); refine gL_ (some 32) Try.func30 #[.agg #[.slice Ao37 x249000_2.length co37, .slice Ao38 x249001_2.length co38], .slice A1 l1.length c1] ?_; (with_reducible refine (impl_advect.calls k2 _ _ x249000_2 _ _ x249001_2 _ _ l1 t249 t252 _ ?side1 ?side2 ?side3 ?side4 ?side5 ?side6 A33.out).mono ?_); (case side1 => exact rD_ HO_249000); (case side2 => exact (Kd.R_reads' HO_249000.out).2.1); (case side3 => exact rD_ HO_249001); (case side4 => exact (Kd.R_reads' HO_249001.out).2.1); (case side5 => exact cB_ HR1 HB); (case side6 => exact HC1.out); rintro e w39 ⟨v250, v253, rfl, ho0, ho1, hb⟩; refine ⟨_, rfl, ?_⟩; have HO251 := rL_ (rN_ (rN_ ho0 HO_249000) HO_249001) HB; have HO254 := rL_ (rN_ (rN_ ho1 HO_249000) HO_249001) HB; replace HO_249000 := Aside0.mk (Kd.R_mono (Kd.R_told (Kd.R_told (Kd.R_old (rT_ HO_249000) hb) (Kd.R_base ho0)) (Kd.R_base ho1)) (fun _ h_ => h_.1)); replace HO_249001 := Aside0.mk (Kd.R_mono (Kd.R_told (Kd.R_told (Kd.R_old (rT_ HO_249001) hb) (Kd.R_base ho0)) (Kd.R_base ho1)) (fun _ h_ => h_.1)); replace BK238 := bB_ BK238 hb; replace BK239 := bB_ BK239 hb; replace BK248 := bB_ BK248 hb; replace HB := bS_ HB hb; (try clear hb); (try clear hb2); (try clear hk); (try clear hi); (try clear ho0); (try clear ho1); obtain ⟨Ao40, co40, eo40⟩ := Kd.R_slice HO251.out; subst eo40; have hcz41_0 : w39.cell? ⟨gb248, 0, none⟩ = some (.slice Ao37 x249000_2.length co37) := (blk_cell BK248.out 0).trans rfl; have hcz41_1 : w39.cell? ⟨gb248, 1, none⟩ = some (.slice Ao38 x249001_2.length co38) := (blk_cell BK248.out 1).trans rfl; have hfz41_0 := blk_frozen BK248.out 0; have hfz41_1 := blk_frozen BK248.out 1; obtain ⟨Ao42, co42, eo42⟩ := Kd.R_slice HO254.out; subst eo42))
       go_roundg k2
       case measure => have := HJ3.out; have := HK2.out; omega
       case rel => exact ⟨(wrap64 (x2_2 - 1)), (t249), (t252), (.slice Ao40 t249.length co40), (.slice Ao42 t252.length co42), (by first | rfl | (simp; done) | (simp [*]; done)), H', ⟨by have := HJ3.out; have := HK2.out; omega⟩, ⟨by (with_reducible repeat (first | apply Kd.R_alloc | apply Kd.R_drewN | apply Kd.R_drew)); exact Kd.R_mono (Kd.R_far (p := ⟨gb248, 1, none⟩) (Kd.R_far (p := ⟨gb248, 0, none⟩) (Kd.R_types HO251.out BK248.out (by decide)) (fun _ hk => hk.2) (.slice Ao40 t249.length co40)) (fun _ hk => hk.2) (.slice Ao42 t252.length co42)) (fun _ hk => hk.1.1.1)⟩, ⟨by (with_reducible repeat (first | apply Kd.R_alloc | apply Kd.R_drewN | apply Kd.R_drew)); exact Kd.R_mono (Kd.R_far (p := ⟨gb248, 1, none⟩) (Kd.R_far (p := ⟨gb248, 0, none⟩) (Kd.R_types HO254.out BK248.out (by decide)) (fun _ hk => hk.2) (.slice Ao40 t249.length co40)) (fun _ hk => hk.2) (.slice Ao42 t252.length co42)) (fun _ hk => hk.1.1.1)⟩, ⟨by (with_reducible repeat (first | refine blk_drewN ?_ _ | refine blk_drew ?_ | refine blk_alloc ?_ _)); refine blk_far ?_ NB238_248.out _; (with_reducible repeat (first | refine blk_drewN ?_ _ | refine blk_drew ?_ | refine blk_alloc ?_ _)); refine blk_far ?_ NB238_248.out _; exact bT_ BK238⟩, ⟨by (with_reducible repeat (first | refine blk_drewN ?_ _ | refine blk_drew ?_ | refine blk_alloc ?_ _)); refine blk_far ?_ NB239_248.out _; (with_reducible repeat (first | refine blk_drewN ?_ _ | refine blk_drew ?_ | refine blk_alloc ?_ _)); refine blk_far ?_ NB239_248.out _; exact bT_ BK239⟩, ⟨by (with_reducible repeat (first | refine blk_drewN ?_ _ | refine blk_drew ?_ | refine blk_alloc ?_ _)); refine blk_put (cs := #[.slice Ao40 t249.length co40, .slice Ao38 x249001_2.length co38]) ?_ 1 _ rfl; (with_reducible repeat (first | refine blk_drewN ?_ _ | refine blk_drew ?_ | refine blk_alloc ?_ _)); refine blk_put (cs := #[.slice Ao37 x249000_2.length co37, .slice Ao38 x249001_2.length co38]) ?_ 0 _ rfl; exact bT_ BK248⟩, ⟨sABelo_6⟩⟩
      ·rw [if_neg c32] at H
       have c32b0 : decide (0 < x2_2) = false := decide_eq_false c32
       clear c32
       simp only [Option.some.injEq, Prod.mk.injEq] at H
       obtain ⟨rfl, rfl, rfl⟩ := H
       have hnb43 := NB248_238.out; have hnc43 := NB238_248.out; have hnb44 := NB248_239.out; have hnc44 := NB239_248.out
       have hcz45_0 : wr.cell? ⟨gb248, 0, none⟩ = some (u249000) := (blk_cell BK248.out 0).trans rfl
       have hcz45_1 : wr.cell? ⟨gb248, 1, none⟩ = some (u249001) := (blk_cell BK248.out 1).trans rfl
       have hfz45_0 := blk_frozen BK248.out 0; have hfz45_1 := blk_frozen BK248.out 1
       obtain ⟨Ao46, co46, eo46⟩ := Kd.R_slice HO_249000.out
       subst eo46
       have hnb47 := NB239_238.out; have hnc47 := NB238_239.out
       have hcz48_0 : wr.cell? ⟨gb239, 0, none⟩ = some (.slice none 0 0) := (blk_cell BK239.out 0).trans rfl
       have hcz48_1 : wr.cell? ⟨gb239, 1, none⟩ = some (.slice none 0 0) := (blk_cell BK239.out 1).trans rfl
       have hfz48_0 := blk_frozen BK239.out 0; have hfz48_1 := blk_frozen BK239.out 1
       obtain ⟨Ao49, co49, eo49⟩ := Kd.R_slice HO_249001.out
       subst eo49
       go_wp2
       refine bodyPost_ret (results_ct rfl _ _ gb239 26 #[.slice Ao46 x249000_2.length co46, .slice Ao49 x249001_2.length co49] (0, 0) _ rfl (by (with_reducible repeat (first | refine blk_drewN ?_ _ | refine blk_drew ?_ | refine blk_alloc ?_ _)); refine blk_put (cs := #[.slice Ao46 x249000_2.length co46, .slice none 0 0]) ?_ 1 _ rfl; (with_reducible repeat (first | refine blk_drewN ?_ _ | refine blk_drew ?_ | refine blk_alloc ?_ _)); refine blk_put (cs := #[.slice none 0 0, .slice none 0 0]) ?_ 0 _ rfl; exact bT_ BK239) Try.underlying26 rfl (by kernel_rfl)) rfl ?_
       exact ⟨_, _, by first | rfl | (simp [errW_none, errW_some] <;> rfl) | (simp [*, errW_none, errW_some] <;> rfl), by (with_reducible repeat (first | apply Kd.R_alloc | apply Kd.R_drewN | apply Kd.R_drew)); exact Kd.R_mono (Kd.R_far (p := ⟨gb239, 1, none⟩) (Kd.R_far (p := ⟨gb239, 0, none⟩) (Kd.R_types HO_249000.out BK239.out (by decide)) (fun _ hk => hk.2) (.slice Ao46 x249000_2.length co46)) (fun _ hk => hk.2) (.slice Ao49 x249001_2.length co49)) (fun _ hk => hk.1), by (with_reducible repeat (first | apply Kd.R_alloc | apply Kd.R_drewN | apply Kd.R_drew)); exact Kd.R_mono (Kd.R_far (p := ⟨gb239, 1, none⟩) (Kd.R_far (p := ⟨gb239, 0, none⟩) (Kd.R_types HO_249001.out BK239.out (by decide)) (fun _ hk => hk.2) (.slice Ao46 x249000_2.length co46)) (fun _ hk => hk.2) (.slice Ao49 x249001_2.length co49)) (fun _ hk => hk.1), sABelo_6⟩

/-! ### laws_big: function 18 -/
def laws_big.f (l0 : List Int) : Option (Bool) := some (decide ((l0.length : Int) > 1048576))
set_option maxHeartbeats 8000000 in
set_option maxRecDepth 100000 in
theorem laws_big.calls (A0 : Option Addr) (c0 : Nat) (l0 : List Int) (r : Bool) (w : World) (hr0 : Kd.C (Kd.int .u8) w A0 l0.length l0) (hc0 : l0.length ≤ c0) (h : laws_big.f l0 = some r) :
  Calls Try.prog 18 #[.slice A0 l0.length c0] w fun e w' => e = .returned (.bool r) ∧ Drawn0 w w' := by
 have HR0 := Aside0.mk hr0; have HC0 := Aside0.mk hc0; clear hr0 hc0
 have H : (some (decide ((l0.length : Int) > 1048576))) = some r := h
 clear h
 obtain rfl := Option.some.inj H
 go_enter Try.func18, Try.ntmps18
 go_wp2
 go_ret
 exact ⟨by first | rfl | (simp; done) | (simp [*]; done), by repeat (first | exact Drawn0.refl _ | apply Drawn0.step)⟩

/-- A state of type 58 at block g of W; what its slices lead to came in by w0. -/
def IsS58 (w0 W : World) (g : Nat) (f0 : List Int) (f1 : Int) : Prop := ∃ A0 c0, W.heap[g]? = some (.cells #[.slice A0 f0.length c0, .int .i64 f1] 58 (0, 0)) ∧ w0.heap.size ≤ g ∧ Kd.C (Kd.int .u8) w0 A0 f0.length f0
theorem IsS58.grown {w0 W : World} {g : Nat} {f0 : List Int} {f1 : Int} {W1 : World} {row : Option Nat} (h : IsS58 w0 W g f0 f1) (hw : W.grownBy W1 row) (hne : some g ≠ row) : IsS58 w0 W1 g f0 f1 := by
 obtain ⟨A0, c0, hb, hg, hr0⟩ := h
 exact ⟨A0, c0, blk_grown hb hw hne, hg, hr0⟩
theorem IsS58.own_neN {w0 W : World} {g : Nat} {f0 : List Int} {f1 : Int} {α : Type} {d : Kd α} {e : Nat} {base : Nat} {ok : Nat → Prop} {v : Value} {xs : List α} (h : IsS58 w0 W g f0 f1) (ho : Kd.N d e W base ok v xs) (ht : e ≠ 58) : some g ≠ v.ownBlock := by
 obtain ⟨A0, c0, hb, hg, hr0⟩ := h
 exact Kd.N_ne ho hb ht
theorem IsS58.fresh {w0 W : World} {g : Nat} {f0 : List Int} {f1 : Int} (h : IsS58 w0 W g f0 f1) : ∀ k, W.heap.size ≤ k → k ≠ g := by
 obtain ⟨A0, c0, hb, hg, hr0⟩ := h
 exact Kd.freshB hb
theorem IsS58.kept {w0 W : World} {g : Nat} {f0 : List Int} {f1 : Int} {W1 : World} {S : Nat → Prop} (h : IsS58 w0 W g f0 f1) (hk : Kept W W1 S) (hne : ¬ S g) : IsS58 w0 W1 g f0 f1 := by
 obtain ⟨A0, c0, hb, hg, hr0⟩ := h
 exact ⟨A0, c0, blk_kept hb hk hne, hg, hr0⟩
theorem IsS58.below {w0 W : World} {g : Nat} {f0 : List Int} {f1 : Int} {W1 : World} (h : IsS58 w0 W g f0 f1) (hw : Below W.heap.size W W1) : IsS58 w0 W1 g f0 f1 := h.grown (grown_of_below hw none) (by simp)
theorem IsS58.alloc {w0 W : World} {g : Nat} {f0 : List Int} {f1 : Int} (h : IsS58 w0 W g f0 f1) (o : Obj) : IsS58 w0 (W.alloc o) g f0 f1 := h.below (below_alloc (Below.refl _ _) o)
theorem IsS58.drewN {w0 W : World} {g : Nat} {f0 : List Int} {f1 : Int} (h : IsS58 w0 W g f0 f1) (m : Nat) : IsS58 w0 (W.drewN m) g f0 f1 := h
theorem IsS58.drew {w0 W : World} {g : Nat} {f0 : List Int} {f1 : Int} (h : IsS58 w0 W g f0 f1) : IsS58 w0 W.drew g f0 f1 := h
theorem IsS58.at_ {w0 W : World} {g : Nat} {f0 : List Int} {f1 : Int} {w' : World} {m : Nat} (hq : W.drewN m = w') (h : IsS58 w0 W g f0 f1) : IsS58 w0 w' g f0 f1 := by subst hq; exact IsS58.drewN h m
theorem IsS58.apart {w0 W : World} {g : Nat} {f0 : List Int} {f1 : Int} {α : Type} {d : Kd α} {e : Nat} {base : Nat} {ok : Nat → Prop} {v : Value} {xs : List α} (h : IsS58 w0 W g f0 f1) (ho : d.R e W base ok v xs) (ht : ∀ q, q ∈ e :: d.E → q ≠ 58) : d.R e W base (fun k => ok k ∧ k ≠ g) v xs := by
 obtain ⟨A0, c0, hb, hg, hr0⟩ := h
 exact Kd.R_types ho hb ht
theorem IsS58.own_ne {w0 W : World} {g : Nat} {f0 : List Int} {f1 : Int} {α : Type} {d : Kd α} {e : Nat} {base : Nat} {ok : Nat → Prop} {v : Value} {xs : List α} (h : IsS58 w0 W g f0 f1) (ho : d.R e W base ok v xs) (ht : e ≠ 58) : some g ≠ v.ownBlock := by
 obtain ⟨A0, c0, hb, hg, hr0⟩ := h
 exact Kd.R_ne ho hb ht
theorem IsS58.apartQ {w0 W : World} {g : Nat} {f0 : List Int} {f1 : Int} {α : Type} {d : Kd α} {e : Nat} {base : Nat} {ok : Nat → Prop} {v : Value} {xs : List α} (h : IsS58 w0 W g f0 f1) (ho : d.Q e W base ok v xs) (ht : ∀ q, q ∈ e :: d.E → q ≠ 58) : d.Q e W base (fun k => ok k ∧ k ≠ g) v xs := by
 obtain ⟨A0, c0, hb, hg, hr0⟩ := h
 exact Kd.Q_types ho hb ht
theorem IsS58.own_neQ {w0 W : World} {g : Nat} {f0 : List Int} {f1 : Int} {α : Type} {d : Kd α} {e : Nat} {base : Nat} {ok : Nat → Prop} {v : Value} {xs : List α} (h : IsS58 w0 W g f0 f1) (ho : d.Q e W base ok v xs) (ht : e ≠ 58) : some g ≠ v.ownBlock := by
 obtain ⟨A0, c0, hb, hg, hr0⟩ := h
 exact Kd.Q_ne ho hb ht
theorem IsS58.apartS {w0 W : World} {g : Nat} {f0 : List Int} {f1 : Int} {α : Type} {d : Kd α} {e : Nat} {base : Nat} {ok : Nat → Prop} {v : Value} {xs : List α} (h : IsS58 w0 W g f0 f1) (ho : d.S e W base ok v xs) (ht : ∀ q, q ∈ e :: d.E → q ≠ 58) : d.S e W base (fun k => ok k ∧ k ≠ g) v xs := by
 obtain ⟨A0, c0, hb, hg, hr0⟩ := h
 exact Kd.S_types ho hb ht
theorem IsS58.own_neS {w0 W : World} {g : Nat} {f0 : List Int} {f1 : Int} {α : Type} {d : Kd α} {e : Nat} {base : Nat} {ok : Nat → Prop} {v : Value} {xs : List α} (h : IsS58 w0 W g f0 f1) (ho : d.S e W base ok v xs) (ht : e ≠ 58) : some g ≠ v.ownBlock := by
 obtain ⟨A0, c0, hb, hg, hr0⟩ := h
 exact Kd.S_ne ho hb ht
theorem IsS58.lt {w0 W : World} {g : Nat} {f0 : List Int} {f1 : Int} (h : IsS58 w0 W g f0 f1) : g < W.heap.size := by
 obtain ⟨A0, c0, hb, hg, hr0⟩ := h
 exact blk_lt hb
theorem IsS58.ge {w0 W : World} {g : Nat} {f0 : List Int} {f1 : Int} (h : IsS58 w0 W g f0 f1) : w0.heap.size ≤ g := by
 obtain ⟨A0, c0, hb, hg, hr0⟩ := h
 exact hg
theorem IsS58.ne_blk {w0 W : World} {g : Nat} {f0 : List Int} {f1 : Int} {a : Nat} {cs : Array Value} {t : TypeId} {fr : Nat × Nat} (h : IsS58 w0 W g f0 f1) (hb2 : W.heap[a]? = some (.cells cs t fr)) (ht : t ≠ 58) : g ≠ a := by
 obtain ⟨A0, c0, hb, hg, hr0⟩ := h
 rintro rfl
 rw [hb] at hb2
 injection hb2 with hb2
 injection hb2 with _ ht2
 exact ht ht2.symm
theorem IsS58.far {w0 W : World} {g : Nat} {f0 : List Int} {f1 : Int} {p : Addr} (h : IsS58 w0 W g f0 f1) (hne : g ≠ p.block) (u : Value) : IsS58 w0 (W.setCell p u) g f0 f1 := by
 obtain ⟨A0, c0, hb, hg, hr0⟩ := h
 exact ⟨A0, c0, blk_far hb hne u, hg, hr0⟩
theorem cellS58_0 {W : World} {g : Nat} {A0 : Option Addr} {c0 : Nat} {f0 : List Int} {f1 : Int} (h : W.heap[g]? = some (.cells #[.slice A0 f0.length c0, .int .i64 f1] 58 (0, 0))) : W.cell? ⟨g, 0, none⟩ = some (.slice A0 f0.length c0) := (blk_cell h 0).trans rfl
theorem cellS58_1 {W : World} {g : Nat} {A0 : Option Addr} {c0 : Nat} {f0 : List Int} {f1 : Int} (h : W.heap[g]? = some (.cells #[.slice A0 f0.length c0, .int .i64 f1] 58 (0, 0))) : W.cell? ⟨g, 1, none⟩ = some (.int .i64 f1) := (blk_cell h 1).trans rfl
theorem IsS58.set_1 {w0 W : World} {g : Nat} {f0 : List Int} {f1 : Int} (h : IsS58 w0 W g f0 f1) (x : Int) : IsS58 w0 (W.setCell ⟨g, 1, none⟩ (.int .i64 x)) g f0 x := by
 obtain ⟨A0, c0, hb, hg, hr0⟩ := h
 exact ⟨A0, c0, by simpa using blk_set hb 1 (.int .i64 x), hg, hr0⟩
theorem IsS58.new (w0 W : World) (A0 : Option Addr) (c0 : Nat) (f0 : List Int) (f1 : Int) (hB : Below w0.heap.size w0 W) (hr0 : Kd.C (Kd.int .u8) w0 A0 f0.length f0) : IsS58 w0 (W.alloc (.cells #[.slice A0 f0.length c0, .int .i64 f1] 58)) W.heap.size f0 f1 := ⟨A0, c0, by simpa using heap_alloc_new W _, hB.size, hr0⟩

/-! ### spec_l1Open: function 33 -/
def spec_l1Open.f (l0 : List Int) : Option (List Int × Int) := some (l0, 0)
set_option maxHeartbeats 8000000 in
set_option maxRecDepth 100000 in
theorem spec_l1Open.calls (A0 : Option Addr) (c0 : Nat) (l0 : List Int) (r1 : List Int) (r2 : Int) (w0 w : World) (hB : Below w0.heap.size w0 w) (hr0 : Kd.C (Kd.int .u8) w0 A0 l0.length l0) (hc0 : l0.length ≤ c0) (h : spec_l1Open.f l0 = some (r1, r2)) :
  Calls Try.prog 33 #[.slice A0 l0.length c0] w fun e w' => ∃ g_ : Nat, e = .returned (.pointer (some ⟨g_, 0, none⟩)) ∧ IsS58 w0 w' g_ r1 r2 ∧ Below w0.heap.size w0 w' ∧ Below w.heap.size w w' := by
 have hu58 := Try.underlying58; have HR0 := Aside0.mk hr0; have HC0 := Aside0.mk hc0; clear hr0 hc0
 have HBW := Aside0.mk (Below.refl w.heap.size w)
 have HW0 := Aside0.mk hB.size; have HB := Aside0.mk hB; clear hB
 have H : (some (l0, 0)) = some (r1, r2) := h
 clear h
 simp only [Option.some.injEq, Prod.mk.injEq] at H
 obtain ⟨rfl, rfl⟩ := H
 go_enter Try.func33, Try.ntmps33
 go_wp2_with (first | ((with_reducible refine gate_dst (N := 5) rfl ?_); refine box_event ?hg (N := 5) ?hd (cs := #[.slice A0 l0.length c0, .int .i64 0]) (t := 58) ?hr ?_; (case hd => rfl); (case hg => rfl); (case hr => first | (go_simp; done) | (go_simp; rfl)); intro gb255 hg w2 hbox hb; replace HB := bS_ HB hb; have BK255 := Aside0.mk (hbox); have GW255 := Aside0.mk ((by rw [hg]; exact (below_size sABelo_6) : w.heap.size ≤ gb255)); have GE255 := Aside0.mk ((Nat.le_trans HW0.out (by rw [hg]; exact (below_size sABelo_6) : w.heap.size ≤ gb255) : w0.heap.size ≤ gb255)); replace HBW := Aside0.mk (below_step HBW.out hb); clear hb hbox hg))
 go_ret
 exact ⟨_, rfl, (show IsS58 w0 _ gb255 l0 0 from ⟨_, _, by exact bT_ BK255, GE255.out, HR0.out⟩), sABelo_6, sABelo_6⟩

/-! ### spec_l1Rd_next: function 44 -/
def spec_l1Rd_next.f (s0_0 : List Int) (s0_1 : Int) : Option (Int × Int) := if s0_1 ≥ (s0_0.length : Int) then (some (0, s0_1)) else (if 0 ≤ (wrap64 ((wrap64 (s0_1 + 1)) - 1)) then (if (wrap64 ((wrap64 (s0_1 + 1)) - 1)) < (s0_0.length : Int) then (some (wrap64 (rd s0_0 (wrap64 ((wrap64 (s0_1 + 1)) - 1))), wrap64 (s0_1 + 1))) else (none)) else (none))
set_option maxHeartbeats 8000000 in
set_option maxRecDepth 100000 in
theorem spec_l1Rd_next.calls (g : Nat) (s0_0 : List Int) (s0_1 : Int) (r1 : Int) (r2 : Int) (w0 w : World) (hI : IsS58 w0 w g s0_0 s0_1) (hB : Below w0.heap.size w0 w) (h : spec_l1Rd_next.f s0_0 s0_1 = some (r1, r2)) :
  Calls Try.prog 44 #[.pointer (some ⟨g, 0, none⟩)] w fun e w' => e = .returned (.int .i64 r1) ∧ IsS58 w0 w' g s0_0 r2 ∧ Below w0.heap.size w0 w' ∧ KeepBut w w' g none := by
 have HI0 := Aside0.mk hI
 have HK := Aside0.mk (KeepBut.refl w g none)
 have HL := Aside0.mk hB.size; clear hI; have HW0 := Aside0.mk hB.size; have HB := Aside0.mk hB; clear hB
 have H : (if s0_1 ≥ (s0_0.length : Int) then (some (0, s0_1)) else (if 0 ≤ (wrap64 ((wrap64 (s0_1 + 1)) - 1)) then (if (wrap64 ((wrap64 (s0_1 + 1)) - 1)) < (s0_0.length : Int) then (some (wrap64 (rd s0_0 (wrap64 ((wrap64 (s0_1 + 1)) - 1))), wrap64 (s0_1 + 1))) else (none)) else (none))) = some (r1, r2) := h
 clear h
 by_cases c2 : s0_1 ≥ (s0_0.length : Int)
 ·rw [if_pos c2] at H
  have c2b0 : decide ((s0_0.length : Int) ≤ s0_1) = true := decide_eq_true c2
  clear c2
  simp only [Option.some.injEq, Prod.mk.injEq] at H
  obtain ⟨rfl, rfl⟩ := H
  obtain ⟨ASz3_0, cSz3_0, HGz3, hgz3, HSz3_0⟩ := HI0.out
  have hcz3_0 := cellS58_0 HGz3; have hcz3_1 := cellS58_1 HGz3; have hfz3_1 := blk_frozen HGz3 1; clear HGz3 hgz3
  go_enter Try.func44, Try.ntmps44
  go_wp2
  repeat (go_quiet (fail); try go_wp2)
  go_ret
  exact ⟨by first | rfl | (simp [errW_none, errW_some] <;> rfl) | (simp [*, errW_none, errW_some] <;> rfl), by repeat (first | (with_reducible first | exact HI0.out | apply IsS58.alloc | apply IsS58.drewN | apply IsS58.drew | apply IsS58.set_1) | exact HI0.out), by repeat (first | (with_reducible first | exact HB.out | apply below_alloc | apply pw_below_drewN | apply below_drew1 | refine below_set ?_ (IsS58.ge HI0.out)) | exact HB.out), sAKeep_6⟩
 ·rw [if_neg c2] at H
  have c2b0 : decide ((s0_0.length : Int) ≤ s0_1) = false := decide_eq_false c2
  clear c2
  obtain ⟨ji4, hji4⟩ : ∃ j_ : Int, (wrap64 ((wrap64 (s0_1 + 1)) - 1)) = j_ := ⟨_, rfl⟩
  replace H : (if 0 ≤ (ji4) then (if (ji4) < (s0_0.length : Int) then (some (wrap64 (rd s0_0 (ji4)), wrap64 (s0_1 + 1))) else (none)) else (none)) = some (r1, r2) := by first | (rw [hji4] at H; exact H) | (simp only [hji4] at H ⊢; exact H)
  have hji4w : (IntKind.i64.wrap ((wrap64 (s0_1 + 1)) - 1)) = ji4 := (i64_w _).trans hji4
  obtain ⟨c5, H⟩ := ifS_ H
  have c5b0 : decide (0 ≤ (ji4)) = true := decide_eq_true c5
  clear c5
  obtain ⟨c6, H⟩ := ifS_ H
  have c6b0 : decide ((ji4) < (s0_0.length : Int)) = true := decide_eq_true c6
  clear c6
  simp only [Option.some.injEq, Prod.mk.injEq] at H
  obtain ⟨rfl, rfl⟩ := H
  obtain ⟨ASz7_0, cSz7_0, HGz7, hgz7, HSz7_0⟩ := HI0.out
  have hcz7_0 := cellS58_0 HGz7; have hcz7_1 := cellS58_1 HGz7; have hfz7_1 := blk_frozen HGz7 1; clear HGz7 hgz7
  have p256 : 0 ≤ ((ji4) : Int) := of_decide_eq_true (by first | (with_reducible assumption) | assumption)
  have q256 : (ji4) < (s0_0.length : Int) := of_decide_eq_true (by first | (with_reducible assumption) | assumption)
  obtain ⟨ad256, e256, hx256_0⟩ := Kd.at_int HSz7_0 (ji4) p256 q256
  cases e256
  have hn256_0 : ad256.block ≠ g := Nat.ne_of_lt (Nat.lt_of_lt_of_le (by have := World.block_lt_of_cell? _ _ hx256_0; first | rwa [add_block] at this | exact this) (IsS58.ge HI0.out))
  replace hx256_0 := pw_cell_below HB.out hx256_0
  replace hx256_0 := (cell_far (p := ⟨g, 1, none⟩) (by first | (rw [add_block]; exact hn256_0) | (show (Addr.add _ _).block ≠ _; rw [add_block]; exact hn256_0) | exact hn256_0) (.int .i64 (wrap64 (s0_1 + 1)))).trans hx256_0
  (try have hy256_0 := fun (n_ : Nat) => (show (((w.drewN n_).setCell ⟨g, 1, none⟩ (.int .i64 (wrap64 (s0_1 + 1))))).cell? _ = some _ from hx256_0))
  clear hn256_0; replace p256 := eq_true p256; replace q256 := eq_true q256
  go_enter Try.func44, Try.ntmps44
  go_wp2
  repeat (go_quiet (fail); try go_wp2)
  go_ret
  exact ⟨by first | rfl | (simp [errW_none, errW_some] <;> rfl) | (simp only [← hji4]; first | rfl | (simp [errW_none, errW_some] <;> rfl)) | (simp [*, errW_none, errW_some] <;> rfl), by repeat (first | (with_reducible first | exact HI0.out | apply IsS58.alloc | apply IsS58.drewN | apply IsS58.drew | apply IsS58.set_1) | exact HI0.out), by repeat (first | (with_reducible first | exact HB.out | apply below_alloc | apply pw_below_drewN | apply below_drew1 | refine below_set ?_ (IsS58.ge HI0.out)) | exact HB.out), sAKeep_6⟩

end Go.Proofs.Ytjmpgngndnheaaa.QFnRingKept
