-- Written by a program of this session out of the printer's texts and contracts of its own.
import Derived.Test.YtjmpgngndnheaaaSq
import Derived.Test.YtjmpgngndnheaaaQFnRingKeptx0
import Derived.Test.YtjmpgngndnheaaaQFnRingKeptx1
import Derived.Test.YtjmpgngndnheaaaQFnRingKeptx6
import Derived.Test.YtjmpgngndnheaaaQFnRingKeptx7
import Derived.Test.YtjmpgngndnheaaaQFnRingKeptx8
namespace Go.Proofs.Ytjmpgngndnheaaa.QFnRingKept
open Go.RowKit Go.Proofs.YtjmpgngndnheaaaW.PrintWords Go.Proofs.YtjmpgngndnheaaaW.PrintLast Go.Proofs.YtjmpgngndnheaaaW.PrintMore Go.Proofs.Ytjmpgngndnheaaa.Sq
attribute [local go_sem] max2_int min2_int max_two min_two max_three min_three max_four min_four   -- for this text's walks alone
set_option linter.unusedVariables false
set_option linter.unusedSimpArgs false
theorem sABelo_9 {b : Nat} {w W : World} (h : Below b w W := by repeat (first | (with_reducible first | exact Aside0.out (by assumption) | apply below_alloc | apply pw_below_drewN | apply below_drew1 | refine below_set ?_ (IsS58.ge (Aside0.out (by assumption))) | refine below_set ?_ (Aside0.out (by assumption))) | exact Aside0.out (by assumption))) : Below b w W := h
theorem sAIsS58_9 {w0 W : World} {g : Nat} {f0 : List Int} {f1 : Int} (h : IsS58 w0 W g f0 f1 := by repeat (first | (with_reducible first | exact Aside0.out (by assumption) | apply IsS58.alloc | apply IsS58.drewN | apply IsS58.drew | apply IsS58.set_1 | refine IsS58.far ?_ (Aside0.out (by assumption)) _) | exact Aside0.out (by assumption))) : IsS58 w0 W g f0 f1 := h

/-! ### spec_DrawAdvect: function 19 -/
def spec_DrawAdvect.f (k : Nat) (l0 : List Int) : Option (List Int × List Int × List Int × Int) := (spec_l1Open.f l0).bind fun bt376 => ((spec_l17Draw.f k bt376.1 bt376.2).bind fun bt379 => ((spec_l1Rd_below.f bt376.1 bt379.2.2.2 9).bind fun bt390 => (some (bt379.1, bt379.2.1, bt379.2.2.1, wrap64 (1 + bt390.1)))))
theorem spec_DrawAdvect.mono : ∀ a0 k, LeO (spec_DrawAdvect.f k a0) (spec_DrawAdvect.f (k + 1) a0) := by
 intro a0 k
 unfold spec_DrawAdvect.f
 repeat' first
   | (with_reducible exact spec_l17Draw.mono _ _ _)
   | (with_reducible exact LeO.refl _)
   | (with_reducible exact LeO.none _)
   | (with_reducible refine LeO.ite ?_ ?_)
   | (with_reducible refine LeO.bind ?_ (fun _ => ?_))
   | exact spec_l17Draw.mono _ _ _
   | exact LeO.none _
   | refine LeO.ite ?_ ?_
   | refine LeO.bind ?_ (fun _ => ?_)
def spec_DrawAdvect.T3 : Bool × List (List Nat × List Nat) := (true, [([], []), ([], []), ([], []), ([2], [2]), ([3], [3]), ([0, 3, 0], [0]), ([1, 5, 0, 1, 5], [1]), ([4, 6, 0, 1, 2, 3, 4, 5, 6], [4])])
def spec_DrawAdvect.B3 : List Nat := [0, 0, 0, 4, 12, 13, 47, 127]
theorem spec_DrawAdvect.tab3 : rtab .any (opsOf Try.f19 3) = spec_DrawAdvect.T3 := by kernel_rfl
theorem spec_DrawAdvect.bits3 : waitsOk spec_DrawAdvect.T3.2 spec_DrawAdvect.B3 = true := by kernel_rfl
set_option maxHeartbeats 8000000 in
set_option maxRecDepth 100000 in
theorem spec_DrawAdvect.calls (k : Nat) (A0 : Option Addr) (c0 : Nat) (l0 : List Int) (r1 : List Int) (r2 : List Int) (r3 : List Int) (r4 : Int) (w : World) (hr0 : Kd.C (Kd.int .u8) w A0 l0.length l0) (hc0 : l0.length ≤ c0) (h : spec_DrawAdvect.f k l0 = some (r1, r2, r3, r4)) :
  Calls Try.prog 19 #[.slice A0 l0.length c0] w fun e w' => ∃ v0_ v1_ v2_ : Value, e = .returned (.tuple #[.agg #[v0_, v1_], v2_, .int .i64 r4]) ∧ Kd.R (Kd.int .i64) 2 w' w.heap.size (fun k_ => some k_ ≠ (v1_ : Value).ownBlock ∧ some k_ ≠ (v2_ : Value).ownBlock) v0_ r1 ∧ Kd.R (Kd.int .i64) 2 w' w.heap.size (fun k_ => some k_ ≠ (v0_ : Value).ownBlock ∧ some k_ ≠ (v2_ : Value).ownBlock) v1_ r2 ∧ Kd.R (Kd.int .i64) 2 w' w.heap.size (fun k_ => some k_ ≠ (v0_ : Value).ownBlock ∧ some k_ ≠ (v1_ : Value).ownBlock) v2_ r3 ∧ Below w.heap.size w w' := by
 have hu26 := Try.underlying26; have HR0 := Aside0.mk hr0; have HC0 := Aside0.mk hc0; clear hr0 hc0
 have HB := Aside0.mk (Below.refl w.heap.size w)
 have H : ((spec_l1Open.f l0).bind fun bt376 => ((spec_l17Draw.f k bt376.1 bt376.2).bind fun bt379 => ((spec_l1Rd_below.f bt376.1 bt379.2.2.2 9).bind fun bt390 => (some (bt379.1, bt379.2.1, bt379.2.2.1, wrap64 (1 + bt390.1)))))) = some (r1, r2, r3, r4) := h
 clear h; replace H := Option.bind_eq_some_iff.mp H
 obtain ⟨⟨t376, t377⟩, A20, H⟩ := H
 replace H : ((spec_l17Draw.f k t376 t377).bind fun bt379 => ((spec_l1Rd_below.f t376 bt379.2.2.2 9).bind fun bt390 => (some (bt379.1, bt379.2.1, bt379.2.2.1, wrap64 (1 + bt390.1))))) = some (r1, r2, r3, r4) := H
 have A2 := Aside0.mk A20; clear A20; replace H := Option.bind_eq_some_iff.mp H
 obtain ⟨⟨t379, t382, t385, t388⟩, A30, H⟩ := H
 replace H : ((spec_l1Rd_below.f t376 t388 9).bind fun bt390 => (some (t379, t382, t385, wrap64 (1 + bt390.1)))) = some (r1, r2, r3, r4) := H
 have A3 := Aside0.mk A30; clear A30; replace H := Option.bind_eq_some_iff.mp H
 obtain ⟨⟨t390, t391⟩, A40, H⟩ := H
 replace H : (some (t379, t382, t385, wrap64 (1 + t390))) = some (r1, r2, r3, r4) := H
 have A4 := Aside0.mk A40; clear A40
 simp only [Option.some.injEq, Prod.mk.injEq] at H
 obtain ⟨rfl, rfl, rfl, rfl⟩ := H
 go_enter Try.func19, Try.ntmps19
 try go_wp2_with (first | ((with_reducible refine gate_dst (N := 2) rfl ?_); refine box_event ?hg (N := 2) ?hd (cs := #[.slice none 0 0, .slice none 0 0]) (t := 26) ?hr ?_; (case hd => rfl); (case hg => rfl); (case hr => first | (go_simp; done) | (go_simp; rfl)); intro gb375 hg w5 hbox hb; have BK375 := Aside0.mk (hbox); have GW375 := gE_ HB hg; have GE375 := gE_ HB hg; replace HB := bS_ HB hb; clear hb hbox hg) | ((with_reducible refine gate_callee (f := 33) rfl ?_); refine gL_ (some 9) Try.func33 #[.slice A0 l0.length c0] ?_; (with_reducible refine (spec_l1Open.calls _ _ l0 t376 t377 w _ ?side1 ?side2 ?side3 A2.out).mono ?_); (case side1 => repeat (first | (with_reducible first | exact HB.out | apply below_alloc | apply pw_below_drewN | apply below_drew1 | refine below_set ?_ GE375.out) | exact HB.out)); (case side2 => exact HR0.out); (case side3 => exact HC0.out); rintro e w6 ⟨g378, rfl, hi, hb, hb2⟩; refine ⟨_, rfl, ?_⟩; replace HB := Aside0.mk (hb); have HI378 := Aside0.mk (hi); have NB378_375 := Aside0.mk (IsS58.ne_blk hi (blk_below (g := gb375) (o := .cells #[.slice none 0 0, .slice none 0 0] 26 (0, 0)) (bT_ BK375) hb2) (by decide)); have NB375_378 := Aside0.mk (Ne.symm (IsS58.ne_blk hi (blk_below (g := gb375) (o := .cells #[.slice none 0 0, .slice none 0 0] 26 (0, 0)) (bT_ BK375) hb2) (by decide))); replace BK375 := Aside0.mk (blk_below (g := gb375) (o := .cells #[.slice none 0 0, .slice none 0 0] 26 (0, 0)) (bT_ BK375) hb2); (try clear hb); (try clear hb2); (try clear hk); (try clear hi)) | ((with_reducible refine gate_callee (f := 34) rfl ?_); refine gL_ (some 12) Try.func34 #[.pointer (some ⟨g378, 0, none⟩)] ?_; (with_reducible refine (spec_l17Draw.calls k g378 t376 t377 t379 t382 t385 t388 w _ ?side1 ?side2 A3.out).mono ?_); (case side1 => repeat (first | (with_reducible first | exact HI378.out | apply IsS58.alloc | apply IsS58.drewN | apply IsS58.drew | apply IsS58.set_1 | refine IsS58.far ?_ NB378_375.out _) | exact HI378.out)); (case side2 => repeat (first | (with_reducible first | exact HB.out | apply below_alloc | apply pw_below_drewN | apply below_drew1 | refine below_set ?_ (IsS58.ge HI378.out) | refine below_set ?_ GE375.out) | exact HB.out)); rintro e w7 ⟨v380, v383, v386, rfl, ho0, ho1, ho2, hi, hb, hk⟩; refine ⟨_, rfl, ?_⟩; replace BK375 := Aside0.mk (KeepBut.blk hk (g' := gb375) (o := .cells #[.slice none 0 0, .slice none 0 0] 26 (0, 0)) (bT_ BK375) NB375_378.out (by simp)); have HO381 := Aside0.mk (Kd.R_lower ho0 (below_size sABelo_9)); have HO384 := Aside0.mk (Kd.R_lower ho1 (below_size sABelo_9)); have HO387 := Aside0.mk (Kd.R_lower ho2 (below_size sABelo_9)); replace HB := Aside0.mk (hb); replace HI378 := Aside0.mk (hi); (try clear hb); (try clear hb2); (try clear hk); (try clear hi); (try clear ho0); (try clear ho1); (try clear ho2)) | ((with_reducible refine gate_dst (N := 6) rfl ?_); refine box_event ?hg (N := 6) ?hd (cs := #[.slice none 0 0, .slice none 0 0]) (t := 26) ?hr ?_; (case hd => rfl); (case hg => rfl); (case hr => first | (go_simp; done) | (go_simp; rfl)); intro gb389 hg w8 hbox hb; replace HO381 := rB_ HO381 hb; replace HO384 := rB_ HO384 hb; replace HO387 := rB_ HO387 hb; have BK389 := Aside0.mk (hbox); have GW389 := Aside0.mk ((by rw [hg]; exact (below_size sABelo_9) : w.heap.size ≤ gb389)); have GE389 := Aside0.mk ((by rw [hg]; exact (below_size sABelo_9) : w.heap.size ≤ gb389)); replace HB := Aside0.mk (below_step sABelo_9 hb); have NB375_389 := nL_ BK375 hg; have NB389_375 := nG_ BK375 hg; replace BK375 := bB_ BK375 hb; have NB378_389 := Aside0.mk ((by rw [hg]; exact Nat.ne_of_lt (IsS58.lt (show IsS58 w _ g378 t376 t388 from sAIsS58_9)) : g378 ≠ gb389)); have NB389_378 := Aside0.mk ((by rw [hg]; exact Nat.ne_of_gt (IsS58.lt (show IsS58 w _ g378 t376 t388 from sAIsS58_9)) : gb389 ≠ g378)); replace HI378 := Aside0.mk (IsS58.below sAIsS58_9 hb); clear hb hbox hg; obtain ⟨Ao9, co9, eo9⟩ := Kd.R_slice HO381.out; subst eo9; have hnb10 := NB389_375.out; have hnc10 := NB375_389.out; have hnb11 := NB389_378.out; have hnc11 := NB378_389.out; have hcz12_0 : w8.cell? ⟨gb389, 0, none⟩ = some (.slice none 0 0) := (blk_cell BK389.out 0).trans rfl; have hcz12_1 : w8.cell? ⟨gb389, 1, none⟩ = some (.slice none 0 0) := (blk_cell BK389.out 1).trans rfl; have hfz12_0 := blk_frozen BK389.out 0; have hfz12_1 := blk_frozen BK389.out 1; obtain ⟨Ao13, co13, eo13⟩ := Kd.R_slice HO384.out; subst eo13))
 have n0_ : Aside0 (Kd.R (Kd.int .i64) 2 ((w8.setCell ⟨gb389, 0, none⟩ (.slice Ao9 t379.length co9)).setCell ⟨gb389, 1, none⟩ (.slice Ao13 t382.length co13)) w.heap.size (fun k_ => some k_ ≠ (.slice Ao13 t382.length co13 : Value).ownBlock ∧ some k_ ≠ (v386 : Value).ownBlock) (.slice Ao9 t379.length co9) t379) := ⟨by (with_reducible repeat (first | apply Kd.R_alloc | apply Kd.R_drewN | apply Kd.R_drew)); exact Kd.R_mono (Kd.R_far (p := ⟨gb389, 1, none⟩) (Kd.R_far (p := ⟨gb389, 0, none⟩) (Kd.R_types HO381.out BK389.out (by decide)) (fun _ hk => hk.2) (.slice Ao9 t379.length co9)) (fun _ hk => hk.2) (.slice Ao13 t382.length co13)) (fun _ hk => ⟨hk.1.1, hk.1.2⟩)⟩
 have n1_ : Aside0 (Kd.R (Kd.int .i64) 2 ((w8.setCell ⟨gb389, 0, none⟩ (.slice Ao9 t379.length co9)).setCell ⟨gb389, 1, none⟩ (.slice Ao13 t382.length co13)) w.heap.size (fun k_ => some k_ ≠ (.slice Ao9 t379.length co9 : Value).ownBlock ∧ some k_ ≠ (v386 : Value).ownBlock) (.slice Ao13 t382.length co13) t382) := ⟨by (with_reducible repeat (first | apply Kd.R_alloc | apply Kd.R_drewN | apply Kd.R_drew)); exact Kd.R_mono (Kd.R_far (p := ⟨gb389, 1, none⟩) (Kd.R_far (p := ⟨gb389, 0, none⟩) (Kd.R_types HO384.out BK389.out (by decide)) (fun _ hk => hk.2) (.slice Ao9 t379.length co9)) (fun _ hk => hk.2) (.slice Ao13 t382.length co13)) (fun _ hk => ⟨hk.1.1, hk.1.2⟩)⟩
 have n2_ : Aside0 (Kd.R (Kd.int .i64) 2 ((w8.setCell ⟨gb389, 0, none⟩ (.slice Ao9 t379.length co9)).setCell ⟨gb389, 1, none⟩ (.slice Ao13 t382.length co13)) w.heap.size (fun k_ => some k_ ≠ (.slice Ao9 t379.length co9 : Value).ownBlock ∧ some k_ ≠ (.slice Ao13 t382.length co13 : Value).ownBlock) v386 t385) := ⟨by (with_reducible repeat (first | apply Kd.R_alloc | apply Kd.R_drewN | apply Kd.R_drew)); exact Kd.R_mono (Kd.R_far (p := ⟨gb389, 1, none⟩) (Kd.R_far (p := ⟨gb389, 0, none⟩) (Kd.R_types HO387.out BK389.out (by decide)) (fun _ hk => hk.2) (.slice Ao9 t379.length co9)) (fun _ hk => hk.2) (.slice Ao13 t382.length co13)) (fun _ hk => ⟨hk.1.1, hk.1.2⟩)⟩
 have n3_ : Aside0 (((w8.setCell ⟨gb389, 0, none⟩ (.slice Ao9 t379.length co9)).setCell ⟨gb389, 1, none⟩ (.slice Ao13 t382.length co13)).heap[gb375]? = some (.cells #[.slice none 0 0, .slice none 0 0] 26 (0, 0))) := ⟨by (with_reducible repeat (first | refine blk_drewN ?_ _ | refine blk_drew ?_ | refine blk_alloc ?_ _)); refine blk_far ?_ NB375_389.out _; (with_reducible repeat (first | refine blk_drewN ?_ _ | refine blk_drew ?_ | refine blk_alloc ?_ _)); refine blk_far ?_ NB375_389.out _; exact bT_ BK375⟩
 have n4_ : Aside0 (((w8.setCell ⟨gb389, 0, none⟩ (.slice Ao9 t379.length co9)).setCell ⟨gb389, 1, none⟩ (.slice Ao13 t382.length co13)).heap[gb389]? = some (.cells #[.slice Ao9 t379.length co9, .slice Ao13 t382.length co13] 26 (0, 0))) := ⟨by (with_reducible repeat (first | refine blk_drewN ?_ _ | refine blk_drew ?_ | refine blk_alloc ?_ _)); refine blk_put (cs := #[.slice Ao9 t379.length co9, .slice none 0 0]) ?_ 1 _ rfl; (with_reducible repeat (first | refine blk_drewN ?_ _ | refine blk_drew ?_ | refine blk_alloc ?_ _)); refine blk_put (cs := #[.slice none 0 0, .slice none 0 0]) ?_ 0 _ rfl; exact bT_ BK389⟩
 have n5_ : Aside0 (IsS58 w ((w8.setCell ⟨gb389, 0, none⟩ (.slice Ao9 t379.length co9)).setCell ⟨gb389, 1, none⟩ (.slice Ao13 t382.length co13)) g378 t376 t388) := ⟨sAIsS58_9⟩
 have n6_ : Aside0 (Below w.heap.size w ((w8.setCell ⟨gb389, 0, none⟩ (.slice Ao9 t379.length co9)).setCell ⟨gb389, 1, none⟩ (.slice Ao13 t382.length co13))) := ⟨sABelo_9⟩
 (try clear HO381); (try clear HO384); (try clear HO387); (try clear BK375); (try clear BK389); (try clear HI378); (try clear HB)
 generalize ((w8.setCell ⟨gb389, 0, none⟩ (.slice Ao9 t379.length co9)).setCell ⟨gb389, 1, none⟩ (.slice Ao13 t382.length co13)) = w14 at n0_ n1_ n2_ n3_ n4_ n5_ n6_ ⊢
 have HO381 := n0_; have HO384 := n1_; have HO387 := n2_; have BK375 := n3_; have BK389 := n4_; have HI378 := n5_; have HB := n6_; clear n0_ n1_ n2_ n3_ n4_ n5_ n6_
 replace HO381 := Aside0.mk (Kd.R_drew HO381.out)
 replace HO384 := Aside0.mk (Kd.R_drew HO384.out)
 replace HO387 := Aside0.mk (Kd.R_drew HO387.out)
 replace BK375 := Aside0.mk (blk_drew BK375.out)
 replace BK389 := Aside0.mk (blk_drew BK389.out)
 replace HI378 := Aside0.mk (IsS58.drew HI378.out)
 replace HB := Aside0.mk (below_drew1 HB.out)
 refine start_ (n := 8) (S := fun w' => w'.cell? ⟨gb389, 0, none⟩ = some (.slice Ao9 t379.length co9) ∧ w'.cell? ⟨gb389, 1, none⟩ = some (.slice Ao13 t382.length co13)) (ds := []) #[false, false, false, false, false, false, false, false] (by kernel_rfl) rfl rfl ⟨(blk_cell BK389.out 0).trans rfl, (blk_cell BK389.out 1).trans rfl⟩ (fun hHeld => ?_); refine with_tabW spec_DrawAdvect.tab3 spec_DrawAdvect.bits3 (fun HT_ HW_ => ?_)
 generalize w14.drew = w15 at HO381 HO384 HO387 BK375 BK389 HI378 HB hHeld ⊢
 refine pT_ 1 (some 16) #[false, true, false, false, false, false, false, false] HT_ ?_
 refine pT_ 2 (some 17) #[false, true, true, false, false, false, false, false] HT_ ?_
 refine tT_ 0 (some 15) #[true, true, true, false, false, false, false, false] HT_ HW_ hHeld ?_ (hy := by rintro w' ⟨s0, s1⟩; go_simp; with_reducible rfl)
 refine one_ (i := 3) (N := some 18) #[true, true, true, true, false, false, false, false] rfl rfl (one_of HT_.out (by kernel_rfl)) (by decide) (fun K hK => ?_)
 refine goes_ Try.func35 (by kernel_rfl) rfl #[.pointer (some ⟨g378, 0, none⟩), .int .i64 9] (by rfl) rfl rfl (by (try simp only [List.map_toArray, List.map_cons, List.map_nil]); first | done | rfl | (simp only [List.length_drop, List.length_take]; rfl)) ?_
 with_reducible refine (spec_l1Rd_below.calls g378 t376 t388 9 t390 t391 w _ ?side1 ?side2 A4.out).mono ?_
 (case side1 => repeat (first | (with_reducible first | exact HI378.out | apply IsS58.alloc | apply IsS58.drewN | apply IsS58.drew | apply IsS58.set_1 | refine IsS58.far ?_ NB378_375.out _ | refine IsS58.far ?_ NB378_389.out _) | exact HI378.out))
 (case side2 => repeat (first | (with_reducible first | exact HB.out | apply below_alloc | apply pw_below_drewN | apply below_drew1 | refine below_set ?_ (IsS58.ge HI378.out) | refine below_set ?_ GE375.out | refine below_set ?_ GE389.out) | exact HB.out))
 rintro e w16 ⟨rfl, hi, hb, hk⟩
 refine ⟨_, rfl, ?_⟩
 replace BK375 := Aside0.mk (KeepBut.blk hk (g' := gb375) (o := .cells #[.slice none 0 0, .slice none 0 0] 26 (0, 0)) (bT_ BK375) NB375_378.out (by simp))
 replace HO381 := Aside0.mk (Kd.R_mono (Kd.R_keep (IsS58.apart (show IsS58 w _ g378 t376 t388 from sAIsS58_9) (rT_ HO381) (by decide)) hk (fun _ h => h.2)) (fun _ h => h.1))
 replace HO384 := Aside0.mk (Kd.R_mono (Kd.R_keep (IsS58.apart (show IsS58 w _ g378 t376 t388 from sAIsS58_9) (rT_ HO384) (by decide)) hk (fun _ h => h.2)) (fun _ h => h.1))
 replace HO387 := Aside0.mk (Kd.R_mono (Kd.R_keep (IsS58.apart (show IsS58 w _ g378 t376 t388 from sAIsS58_9) (rT_ HO387) (by decide)) hk (fun _ h => h.2)) (fun _ h => h.1))
 replace BK389 := Aside0.mk (KeepBut.blk hk (g' := gb389) (o := .cells #[.slice Ao9 t379.length co9, .slice Ao13 t382.length co13] 26 (0, 0)) (bT_ BK389) NB389_378.out (by simp))
 replace HB := Aside0.mk (hb)
 replace HI378 := Aside0.mk (hi)
 (try clear hb); (try clear hb2); (try clear hk); (try clear hi)
 refine hK.out _ _ ⟨(blk_cell BK389.out 0).trans rfl, (blk_cell BK389.out 1).trans rfl⟩ (fun hHeld => ?_)
 clear hK K
 refine nS_ (some 18) ?_
 refine pT_ 4 (some 19) #[true, true, true, true, true, false, false, false] HT_ ?_
 refine one_ (i := 5) (N := none) #[true, true, true, true, true, true, false, false] rfl rfl (one_of HT_.out (by kernel_rfl)) (by decide) (fun K hK => ?_)
 have hs17 : w16.cell? ⟨gb375, 0, none⟩ = some (.slice none 0 0) := (blk_cell BK375.out 0).trans rfl
 have hfs17 := blk_frozen BK375.out 0; have hns17_1 := NB389_375.out; have hms17_1 := NB375_389.out
 have hs18 : w16.cell? ⟨gb375, 1, none⟩ = some (.slice none 0 0) := (blk_cell BK375.out 1).trans rfl
 have hfs18 := blk_frozen BK375.out 1; have hns18_1 := NB389_375.out; have hms18_1 := NB375_389.out
 refine skip_ (w1 := ?_) (by rfl) rfl ?_ ?_
 rotate_left
 ·go_simp
  rfl
 refine hK.out _ _ ⟨((cell_far (p := ⟨gb375, _, none⟩) NB389_375.out _).trans (((cell_far (p := ⟨gb375, _, none⟩) NB389_375.out _).trans (hHeld.1)))), ((cell_far (p := ⟨gb375, _, none⟩) NB389_375.out _).trans (((cell_far (p := ⟨gb375, _, none⟩) NB389_375.out _).trans (hHeld.2))))⟩ (fun hHeld => ?_)
 clear hK K
 refine pT_ 6 (some 3) #[true, true, true, true, true, true, true, false] HT_ ?_
 refine pT_ 7 (some 4) #[true, true, true, true, true, true, true, true] HT_ ?_
 refine done_ (done_of HT_.out (by kernel_rfl)) ?_
 try go_wp2
 refine bodyPost_ret (results_ctt rfl _ _ gb375 26 #[.slice Ao9 t379.length co9, .slice Ao13 t382.length co13] (0, 0) _ rfl (by (with_reducible repeat (first | refine blk_drewN ?_ _ | refine blk_drew ?_ | refine blk_alloc ?_ _)); refine blk_put (cs := #[.slice Ao9 t379.length co9, .slice none 0 0]) ?_ 1 _ rfl; (with_reducible repeat (first | refine blk_drewN ?_ _ | refine blk_drew ?_ | refine blk_alloc ?_ _)); refine blk_put (cs := #[.slice none 0 0, .slice none 0 0]) ?_ 0 _ rfl; exact bT_ BK375) Try.underlying26 rfl (by kernel_rfl)) rfl ?_
 exact ⟨_, _, _, by first | rfl | (simp [errW_none, errW_some] <;> rfl) | (simp [*, errW_none, errW_some] <;> rfl), by (with_reducible repeat (first | apply Kd.R_alloc | apply Kd.R_drewN | apply Kd.R_drew)); exact Kd.R_mono (Kd.R_far (p := ⟨gb375, 1, none⟩) (Kd.R_far (p := ⟨gb375, 0, none⟩) (Kd.R_types HO381.out BK375.out (by decide)) (fun _ hk => hk.2) (.slice Ao9 t379.length co9)) (fun _ hk => hk.2) (.slice Ao13 t382.length co13)) (fun _ hk => ⟨hk.1.1, hk.1.2⟩), by (with_reducible repeat (first | apply Kd.R_alloc | apply Kd.R_drewN | apply Kd.R_drew)); exact Kd.R_mono (Kd.R_far (p := ⟨gb375, 1, none⟩) (Kd.R_far (p := ⟨gb375, 0, none⟩) (Kd.R_types HO384.out BK375.out (by decide)) (fun _ hk => hk.2) (.slice Ao9 t379.length co9)) (fun _ hk => hk.2) (.slice Ao13 t382.length co13)) (fun _ hk => ⟨hk.1.1, hk.1.2⟩), by (with_reducible repeat (first | apply Kd.R_alloc | apply Kd.R_drewN | apply Kd.R_drew)); exact Kd.R_mono (Kd.R_far (p := ⟨gb375, 1, none⟩) (Kd.R_far (p := ⟨gb375, 0, none⟩) (Kd.R_types HO387.out BK375.out (by decide)) (fun _ hk => hk.2) (.slice Ao9 t379.length co9)) (fun _ hk => hk.2) (.slice Ao13 t382.length co13)) (fun _ hk => ⟨hk.1.1, hk.1.2⟩), sABelo_9⟩

/-! ### laws_sameInts: function 36 -/
def laws_sameInts.l0 : Nat → List Int → List Int → Int → Option (Bool)
 | 0, _, _, _ => none
 | k + 1, x0, x1, x5 => if x5 < (x0.length : Int) then (if 0 ≤ x5 then (if x5 < (x1.length : Int) then (if (rd x0 x5) = (rd x1 x5) then (laws_sameInts.l0 k x0 x1 (wrap64 (x5 + 1))) else (some false)) else (none)) else (none)) else (some true)
def laws_sameInts.f (k : Nat) (l0 : List Int) (l1 : List Int) : Option (Bool) := if (l0.length : Int) = (l1.length : Int) then (laws_sameInts.l0 k l0 l1 0) else (some false)
theorem laws_sameInts.mono_l : ∀ k, (∀ y0 y1 y2, LeO (laws_sameInts.l0 k y0 y1 y2) (laws_sameInts.l0 (k + 1) y0 y1 y2))
 | 0 => fun _ _ _ r h => by simp [laws_sameInts.l0] at h
 | k + 1 => by
  have ih0 := laws_sameInts.mono_l k
  ·intro y0 y1 y2
   unfold laws_sameInts.l0
   repeat' first
   | (with_reducible exact ih0 _ _ _)
   | (with_reducible exact LeO.refl _)
   | (with_reducible exact LeO.none _)
   | (with_reducible refine LeO.ite ?_ ?_)
   | (with_reducible refine LeO.bind ?_ (fun _ => ?_))
   | exact ih0 _ _ _
   | exact LeO.none _
   | refine LeO.ite ?_ ?_
   | refine LeO.bind ?_ (fun _ => ?_)
theorem laws_sameInts.mono : ∀ a0 a1 k, LeO (laws_sameInts.f k a0 a1) (laws_sameInts.f (k + 1) a0 a1) := by
 intro a0 a1 k
 have ih0 := laws_sameInts.mono_l k
 unfold laws_sameInts.f
 repeat' first
   | (with_reducible exact ih0 _ _ _)
   | (with_reducible exact LeO.refl _)
   | (with_reducible exact LeO.none _)
   | (with_reducible refine LeO.ite ?_ ?_)
   | (with_reducible refine LeO.bind ?_ (fun _ => ?_))
   | exact ih0 _ _ _
   | exact LeO.none _
   | refine LeO.ite ?_ ?_
   | refine LeO.bind ?_ (fun _ => ?_)
set_option maxHeartbeats 8000000 in
set_option maxRecDepth 100000 in
theorem laws_sameInts.calls (k : Nat) (A0 : Option Addr) (c0 : Nat) (l0 : List Int) (A1 : Option Addr) (c1 : Nat) (l1 : List Int) (r : Bool) (w : World) (hr0 : Kd.C (Kd.int .i64) w A0 l0.length l0) (hc0 : l0.length ≤ c0) (hr1 : Kd.C (Kd.int .i64) w A1 l1.length l1) (hc1 : l1.length ≤ c1) (h : laws_sameInts.f k l0 l1 = some r) :
  Calls Try.prog 36 #[.slice A0 l0.length c0, .slice A1 l1.length c1] w fun e w' => e = .returned (.bool r) ∧ Drawn0 w w' := by
 have HR0 := Aside0.mk hr0; have HC0 := Aside0.mk hc0; clear hr0 hc0; have HR1 := Aside0.mk hr1; have HC1 := Aside0.mk hc1; clear hr1 hc1
 have H : (if (l0.length : Int) = (l1.length : Int) then (laws_sameInts.l0 k l0 l1 0) else (some false)) = some r := h
 clear h
 by_cases c3 : (l0.length : Int) = (l1.length : Int)
 ·rw [if_pos c3] at H
  have c3b0 : ((l0.length : Int) == (l1.length : Int)) = true := beq_iff_eq.mpr c3
  have c3b1 : ((l0.length : Int) != (l1.length : Int)) = false := bne_eq_false_iff_eq.mpr c3
  have c3b2 : (l0.length == l1.length) = true := by first | simpa using c3 | (simp at c3 ⊢; omega)
  clear c3; have H' := Aside0.mk H; clear H
  go_enter Try.func36, Try.ntmps36
  go_wp2
  repeat (go_quiet (fail); try go_wp2)
  go_loopg [5] k (fun kq v5 w' => ∃ (x5_1 : Int), v5 = .int .i64 x5_1 ∧ Aside0 (laws_sameInts.l0 kq l0 l1 x5_1 = some r) ∧ Aside0 (kq ≤ k) ∧ Drawn0 w w')
  case atStart => exact ⟨(0), (by first | rfl | (simp; done) | (simp [*]; done)), H', ⟨Nat.le_refl _⟩, by repeat (first | exact Drawn0.refl _ | apply Drawn0.step)⟩
  case round =>
   clear H'; (try clear c1); (try clear p2); (try clear c3); (try clear c3b0); (try clear c3b1); (try clear c3b2)
   obtain ⟨x5_1, rfl, HA, HK1, ⟨m1, rfl⟩⟩ := hrel
   cases gk with
   | zero => exact absurd HA.out (by simp [laws_sameInts.l0])
   | succ k1 =>
    have H := HA.out; clear HA
    simp only [laws_sameInts.l0] at H
    by_cases c4 : x5_1 < (l0.length : Int)
    ·rw [if_pos c4] at H
     have c4b0 : decide (x5_1 < (l0.length : Int)) = true := decide_eq_true c4
     clear c4
     obtain ⟨c5, H⟩ := ifS_ H
     have c5b0 : decide (0 ≤ x5_1) = true := decide_eq_true c5
     clear c5
     obtain ⟨c6, H⟩ := ifS_ H
     have c6b0 : decide (x5_1 < (l1.length : Int)) = true := decide_eq_true c6
     clear c6
     by_cases c7 : (rd l0 x5_1) = (rd l1 x5_1)
     ·rw [if_pos c7] at H
      have c7b0 : ((rd l0 x5_1) == (rd l1 x5_1)) = true := beq_iff_eq.mpr c7
      have c7b1 : ((rd l0 x5_1) != (rd l1 x5_1)) = false := bne_eq_false_iff_eq.mpr c7
      clear c7; have H' := Aside0.mk H; clear H
      have p392 : 0 ≤ (x5_1 : Int) := of_decide_eq_true (by first | (with_reducible assumption) | assumption)
      have q392 : x5_1 < (l0.length : Int) := of_decide_eq_true (by first | (with_reducible assumption) | assumption)
      obtain ⟨ad392, e392, hx392_0⟩ := Kd.at_int HR0.out x5_1 p392 q392
      cases e392
      replace p392 := eq_true p392; replace q392 := eq_true q392
      have p393 : 0 ≤ (x5_1 : Int) := of_decide_eq_true (by first | (with_reducible assumption) | assumption)
      have q393 : x5_1 < (l1.length : Int) := of_decide_eq_true (by first | (with_reducible assumption) | assumption)
      obtain ⟨ad393, e393, hx393_0⟩ := Kd.at_int HR1.out x5_1 p393 q393
      cases e393
      replace p393 := eq_true p393; replace q393 := eq_true q393
      go_wp2
      repeat (go_quiet (fail); try go_wp2)
      go_roundg k1
      case measure => have := HK1.out; omega
      case rel => exact ⟨(wrap64 (x5_1 + 1)), (by first | rfl | (simp; done) | (simp [*]; done)), H', ⟨by have := HK1.out; omega⟩, by repeat (first | exact Drawn0.refl _ | apply Drawn0.step)⟩
     ·rw [if_neg c7] at H
      have c7b0 : ((rd l0 x5_1) == (rd l1 x5_1)) = false := beq_eq_false_iff_ne.mpr c7
      have c7b1 : ((rd l0 x5_1) != (rd l1 x5_1)) = true := bne_iff_ne.mpr c7
      obtain rfl := Option.some.inj H
      have p392 : 0 ≤ (x5_1 : Int) := of_decide_eq_true (by first | (with_reducible assumption) | assumption)
      have q392 : x5_1 < (l0.length : Int) := of_decide_eq_true (by first | (with_reducible assumption) | assumption)
      obtain ⟨ad392, e392, hx392_0⟩ := Kd.at_int HR0.out x5_1 p392 q392
      cases e392
      replace p392 := eq_true p392; replace q392 := eq_true q392
      have p393 : 0 ≤ (x5_1 : Int) := of_decide_eq_true (by first | (with_reducible assumption) | assumption)
      have q393 : x5_1 < (l1.length : Int) := of_decide_eq_true (by first | (with_reducible assumption) | assumption)
      obtain ⟨ad393, e393, hx393_0⟩ := Kd.at_int HR1.out x5_1 p393 q393
      cases e393
      replace p393 := eq_true p393; replace q393 := eq_true q393
      go_wp2
      repeat (go_quiet (fail); try go_wp2)
      go_ret
      exact ⟨by first | rfl | (simp; done) | (simp [*]; done), by repeat (first | exact Drawn0.refl _ | apply Drawn0.step)⟩
    ·rw [if_neg c4] at H
     have c4b0 : decide (x5_1 < (l0.length : Int)) = false := decide_eq_false c4
     clear c4
     obtain rfl := Option.some.inj H
     go_wp2
     repeat (go_quiet (fail); try go_wp2)
     go_ret
     exact ⟨by first | rfl | (simp; done) | (simp [*]; done), by repeat (first | exact Drawn0.refl _ | apply Drawn0.step)⟩
 ·rw [if_neg c3] at H
  have c3b0 : ((l0.length : Int) == (l1.length : Int)) = false := beq_eq_false_iff_ne.mpr c3
  have c3b1 : ((l0.length : Int) != (l1.length : Int)) = true := bne_iff_ne.mpr c3
  have c3b2 : (l0.length == l1.length) = false := by first | simpa using c3 | (simp at c3 ⊢; omega)
  obtain rfl := Option.some.inj H
  go_enter Try.func36, Try.ntmps36
  go_wp2
  repeat (go_quiet (fail); try go_wp2)
  go_ret
  exact ⟨by first | rfl | (simp; done) | (simp [*]; done), by repeat (first | exact Drawn0.refl _ | apply Drawn0.step)⟩

/-! ### laws_sameRing: function 20 -/
def laws_sameRing.f (k : Nat) (l0_0 : List Int) (l0_1 : List Int) (l1_0 : List Int) (l1_1 : List Int) : Option (Bool) := (laws_sameInts.f k l0_0 l1_0).bind fun t396 => (if t396 = true then ((laws_sameInts.f k l0_1 l1_1).bind fun t397 => (some t397)) else (some false))
theorem laws_sameRing.mono : ∀ a0 a1 a2 a3 k, LeO (laws_sameRing.f k a0 a1 a2 a3) (laws_sameRing.f (k + 1) a0 a1 a2 a3) := by
 intro a0 a1 a2 a3 k
 unfold laws_sameRing.f
 repeat' first
   | (with_reducible exact laws_sameInts.mono _ _ _)
   | (with_reducible exact LeO.refl _)
   | (with_reducible exact LeO.none _)
   | (with_reducible refine LeO.ite ?_ ?_)
   | (with_reducible refine LeO.bind ?_ (fun _ => ?_))
   | exact laws_sameInts.mono _ _ _
   | exact LeO.none _
   | refine LeO.ite ?_ ?_
   | refine LeO.bind ?_ (fun _ => ?_)
set_option maxHeartbeats 8000000 in
set_option maxRecDepth 100000 in
theorem laws_sameRing.calls (k : Nat) (A0_0 : Option Addr) (c0_0 : Nat) (l0_0 : List Int) (A0_1 : Option Addr) (c0_1 : Nat) (l0_1 : List Int) (A1_0 : Option Addr) (c1_0 : Nat) (l1_0 : List Int) (A1_1 : Option Addr) (c1_1 : Nat) (l1_1 : List Int) (r : Bool) (w : World) (hr0_0 : Kd.C (Kd.int .i64) w A0_0 l0_0.length l0_0) (hc0_0 : l0_0.length ≤ c0_0) (hr0_1 : Kd.C (Kd.int .i64) w A0_1 l0_1.length l0_1) (hc0_1 : l0_1.length ≤ c0_1) (hr1_0 : Kd.C (Kd.int .i64) w A1_0 l1_0.length l1_0) (hc1_0 : l1_0.length ≤ c1_0) (hr1_1 : Kd.C (Kd.int .i64) w A1_1 l1_1.length l1_1) (hc1_1 : l1_1.length ≤ c1_1) (h : laws_sameRing.f k l0_0 l0_1 l1_0 l1_1 = some r) :
  Calls Try.prog 20 #[.agg #[.slice A0_0 l0_0.length c0_0, .slice A0_1 l0_1.length c0_1], .agg #[.slice A1_0 l1_0.length c1_0, .slice A1_1 l1_1.length c1_1]] w fun e w' => e = .returned (.bool r) ∧ Below w.heap.size w w' := by
 have hu26 := Try.underlying26; have HR0_0 := Aside0.mk hr0_0; have HC0_0 := Aside0.mk hc0_0; clear hr0_0 hc0_0; have HR0_1 := Aside0.mk hr0_1; have HC0_1 := Aside0.mk hc0_1; clear hr0_1 hc0_1; have HR1_0 := Aside0.mk hr1_0; have HC1_0 := Aside0.mk hc1_0; clear hr1_0 hc1_0; have HR1_1 := Aside0.mk hr1_1; have HC1_1 := Aside0.mk hc1_1; clear hr1_1 hc1_1
 have HB := Aside0.mk (Below.refl w.heap.size w)
 have H : ((laws_sameInts.f k l0_0 l1_0).bind fun t396 => (if t396 = true then ((laws_sameInts.f k l0_1 l1_1).bind fun t397 => (some t397)) else (some false))) = some r := h
 clear h; replace H := Option.bind_eq_some_iff.mp H
 obtain ⟨t396, A30, H⟩ := H
 replace H : (if t396 = true then ((laws_sameInts.f k l0_1 l1_1).bind fun t397 => (some t397)) else (some false)) = some r := H
 have A3 := Aside0.mk A30; clear A30
 by_cases c4 : t396 = true
 ·subst c4
  have H1 : ((laws_sameInts.f k l0_1 l1_1).bind fun t397 => (some t397)) = some r := by rw [if_pos rfl] at H; exact H
  clear H; have H := H1; clear H1; replace H := Option.bind_eq_some_iff.mp H
  obtain ⟨t397, A50, H⟩ := H
  replace H : (some t397) = some r := H
  have A5 := Aside0.mk A50; clear A50
  obtain rfl := Option.some.inj H
  go_enter Try.func20, Try.ntmps20
  go_wp2_with (first | ((with_reducible refine gate_dst (N := 2) rfl ?_); refine box_event ?hg (N := 2) ?hd (cs := #[.slice A0_0 l0_0.length c0_0, .slice A0_1 l0_1.length c0_1]) (t := 26) ?hr ?_; (case hd => rfl); (case hg => rfl); (case hr => first | (go_simp; done) | (go_simp; rfl)); intro gb394 hg w6 hbox hb; have BK394 := Aside0.mk (hbox); have GW394 := gE_ HB hg; have GE394 := gE_ HB hg; replace HB := bS_ HB hb; clear hb hbox hg) | ((with_reducible refine gate_dst (N := 3) rfl ?_); refine box_event ?hg (N := 3) ?hd (cs := #[.slice A1_0 l1_0.length c1_0, .slice A1_1 l1_1.length c1_1]) (t := 26) ?hr ?_; (case hd => rfl); (case hg => rfl); (case hr => first | (go_simp; done) | (go_simp; rfl)); intro gb395 hg w7 hbox hb; have BK395 := Aside0.mk (hbox); have GW395 := gE_ HB hg; have GE395 := gE_ HB hg; replace HB := bS_ HB hb; have NB394_395 := nL_ BK394 hg; have NB395_394 := nG_ BK394 hg; replace BK394 := bB_ BK394 hb; clear hb hbox hg; have hnb8 := NB394_395.out; have hnc8 := NB395_394.out; have hcz9_0 : w7.cell? ⟨gb394, 0, none⟩ = some (.slice A0_0 l0_0.length c0_0) := (blk_cell BK394.out 0).trans rfl; have hcz9_1 : w7.cell? ⟨gb394, 1, none⟩ = some (.slice A0_1 l0_1.length c0_1) := (blk_cell BK394.out 1).trans rfl; have hfz9_0 := blk_frozen BK394.out 0; have hfz9_1 := blk_frozen BK394.out 1; have hcz10_0 : w7.cell? ⟨gb395, 0, none⟩ = some (.slice A1_0 l1_0.length c1_0) := (blk_cell BK395.out 0).trans rfl; have hcz10_1 : w7.cell? ⟨gb395, 1, none⟩ = some (.slice A1_1 l1_1.length c1_1) := (blk_cell BK395.out 1).trans rfl; have hfz10_0 := blk_frozen BK395.out 0; have hfz10_1 := blk_frozen BK395.out 1) | ((with_reducible refine gate_callee (f := 36) rfl ?_); refine gL_ (some 9) Try.func36 #[.slice A0_0 l0_0.length c0_0, .slice A1_0 l1_0.length c1_0] ?_; (with_reducible refine (laws_sameInts.calls k _ _ l0_0 _ _ l1_0 true _ ?side1 ?side2 ?side3 ?side4 A3.out).mono ?_); (case side1 => exact cB_ HR0_0 HB); (case side2 => exact HC0_0.out); (case side3 => exact cB_ HR1_0 HB); (case side4 => exact HC1_0.out); rintro e w' ⟨rfl, ⟨nd, rfl⟩⟩; refine ⟨_, rfl, ?_⟩) | (go_at_call 36; (with_reducible refine (laws_sameInts.calls k _ _ l0_1 _ _ l1_1 t397 _ ?side1 ?side2 ?side3 ?side4 A5.out).mono ?_); (case side1 => repeat (first | exact (Kd.C_below HR0_1.out sABelo_9) | (with_reducible refine Kd.C_alloc ?_ _) | (with_reducible refine Kd.C_drewN ?_ _) | (with_reducible refine Kd.C_drew ?_))); (case side2 => exact HC0_1.out); (case side3 => repeat (first | exact (Kd.C_below HR1_1.out sABelo_9) | (with_reducible refine Kd.C_alloc ?_ _) | (with_reducible refine Kd.C_drewN ?_ _) | (with_reducible refine Kd.C_drew ?_))); (case side4 => exact HC1_1.out); rintro e w' ⟨rfl, ⟨nd, rfl⟩⟩))
  go_ret
  exact ⟨by first | rfl | (simp [errW_none, errW_some] <;> rfl) | (simp [*, errW_none, errW_some] <;> rfl), sABelo_9⟩
 ·replace c4 := Bool.eq_false_iff.mpr c4
  subst c4
  have H1 : (some false) = some r := by rw [if_neg (show ¬ (false = true) by decide)] at H; exact H
  clear H; have H := H1; clear H1
  obtain rfl := Option.some.inj H
  go_enter Try.func20, Try.ntmps20
  go_wp2_with (first | ((with_reducible refine gate_dst (N := 2) rfl ?_); refine box_event ?hg (N := 2) ?hd (cs := #[.slice A0_0 l0_0.length c0_0, .slice A0_1 l0_1.length c0_1]) (t := 26) ?hr ?_; (case hd => rfl); (case hg => rfl); (case hr => first | (go_simp; done) | (go_simp; rfl)); intro gb394 hg w11 hbox hb; have BK394 := Aside0.mk (hbox); have GW394 := gE_ HB hg; have GE394 := gE_ HB hg; replace HB := bS_ HB hb; clear hb hbox hg) | ((with_reducible refine gate_dst (N := 3) rfl ?_); refine box_event ?hg (N := 3) ?hd (cs := #[.slice A1_0 l1_0.length c1_0, .slice A1_1 l1_1.length c1_1]) (t := 26) ?hr ?_; (case hd => rfl); (case hg => rfl); (case hr => first | (go_simp; done) | (go_simp; rfl)); intro gb395 hg w12 hbox hb; have BK395 := Aside0.mk (hbox); have GW395 := gE_ HB hg; have GE395 := gE_ HB hg; replace HB := bS_ HB hb; have NB394_395 := nL_ BK394 hg; have NB395_394 := nG_ BK394 hg; replace BK394 := bB_ BK394 hb; clear hb hbox hg; have hnb13 := NB394_395.out; have hnc13 := NB395_394.out; have hcz14_0 : w12.cell? ⟨gb394, 0, none⟩ = some (.slice A0_0 l0_0.length c0_0) := (blk_cell BK394.out 0).trans rfl; have hcz14_1 : w12.cell? ⟨gb394, 1, none⟩ = some (.slice A0_1 l0_1.length c0_1) := (blk_cell BK394.out 1).trans rfl; have hfz14_0 := blk_frozen BK394.out 0; have hfz14_1 := blk_frozen BK394.out 1; have hcz15_0 : w12.cell? ⟨gb395, 0, none⟩ = some (.slice A1_0 l1_0.length c1_0) := (blk_cell BK395.out 0).trans rfl; have hcz15_1 : w12.cell? ⟨gb395, 1, none⟩ = some (.slice A1_1 l1_1.length c1_1) := (blk_cell BK395.out 1).trans rfl; have hfz15_0 := blk_frozen BK395.out 0; have hfz15_1 := blk_frozen BK395.out 1) | ((with_reducible refine gate_callee (f := 36) rfl ?_); refine gL_ (some 9) Try.func36 #[.slice A0_0 l0_0.length c0_0, .slice A1_0 l1_0.length c1_0] ?_; (with_reducible refine (laws_sameInts.calls k _ _ l0_0 _ _ l1_0 false _ ?side1 ?side2 ?side3 ?side4 A3.out).mono ?_); (case side1 => exact cB_ HR0_0 HB); (case side2 => exact HC0_0.out); (case side3 => exact cB_ HR1_0 HB); (case side4 => exact HC1_0.out); rintro e w' ⟨rfl, ⟨nd, rfl⟩⟩; refine ⟨_, rfl, ?_⟩))
  go_ret
  exact ⟨by first | rfl | (simp [errW_none, errW_some] <;> rfl) | (simp [*, errW_none, errW_some] <;> rfl), sABelo_9⟩

/-! ### impl_Moment: function 21 -/
def impl_Moment.l0 : Nat → Int → Int → Int → Int → List Int → List Int → Option (Int × Int)
 | 0, _, _, _, _, _, _ => none
 | k + 1, x4, x5, x12, x13, x399000, x399001 => if x13 < x12 then (if 0 ≤ x13 then (if x13 < (x399000.length : Int) then (if x13 < (x399001.length : Int) then (impl_Moment.l0 k (wrap64 (x4 + (rd x399000 x13))) (wrap64 (x5 + (rd x399001 x13))) x12 (wrap64 (x13 + 1)) x399000 x399001) else (none)) else (none)) else (none)) else (some (x4, x5))
def impl_Moment.f (k : Nat) (l0_0 : List Int) (l0_1 : List Int) : Option (Int × Int) := (impl_RingOk.f k l0_0 l0_1).bind fun t399 => (if t399 = true then (impl_Moment.l0 k 0 0 (l0_0.length : Int) 0 l0_0 l0_1) else (some (0, 0)))
theorem impl_Moment.mono_l : ∀ k, (∀ y0 y1 y2 y3 y4 y5, LeO (impl_Moment.l0 k y0 y1 y2 y3 y4 y5) (impl_Moment.l0 (k + 1) y0 y1 y2 y3 y4 y5))
 | 0 => fun _ _ _ _ _ _ r h => by simp [impl_Moment.l0] at h
 | k + 1 => by
  have ih0 := impl_Moment.mono_l k
  ·intro y0 y1 y2 y3 y4 y5
   unfold impl_Moment.l0
   repeat' first
   | (with_reducible exact ih0 _ _ _ _ _ _)
   | (with_reducible exact impl_RingOk.mono _ _ _)
   | (with_reducible exact LeO.refl _)
   | (with_reducible exact LeO.none _)
   | (with_reducible refine LeO.ite ?_ ?_)
   | (with_reducible refine LeO.bind ?_ (fun _ => ?_))
   | exact ih0 _ _ _ _ _ _
   | exact impl_RingOk.mono _ _ _
   | exact LeO.none _
   | refine LeO.ite ?_ ?_
   | refine LeO.bind ?_ (fun _ => ?_)
theorem impl_Moment.mono : ∀ a0 a1 k, LeO (impl_Moment.f k a0 a1) (impl_Moment.f (k + 1) a0 a1) := by
 intro a0 a1 k
 have ih0 := impl_Moment.mono_l k
 unfold impl_Moment.f
 repeat' first
   | (with_reducible exact ih0 _ _ _ _ _ _)
   | (with_reducible exact impl_RingOk.mono _ _ _)
   | (with_reducible exact LeO.refl _)
   | (with_reducible exact LeO.none _)
   | (with_reducible refine LeO.ite ?_ ?_)
   | (with_reducible refine LeO.bind ?_ (fun _ => ?_))
   | exact ih0 _ _ _ _ _ _
   | exact impl_RingOk.mono _ _ _
   | exact LeO.none _
   | refine LeO.ite ?_ ?_
   | refine LeO.bind ?_ (fun _ => ?_)
set_option maxHeartbeats 8000000 in
set_option maxRecDepth 100000 in
theorem impl_Moment.calls (k : Nat) (A0_0 : Option Addr) (c0_0 : Nat) (l0_0 : List Int) (A0_1 : Option Addr) (c0_1 : Nat) (l0_1 : List Int) (r1 : Int) (r2 : Int) (w : World) (hr0_0 : Kd.C (Kd.int .i64) w A0_0 l0_0.length l0_0) (hc0_0 : l0_0.length ≤ c0_0) (hr0_1 : Kd.C (Kd.int .i64) w A0_1 l0_1.length l0_1) (hc0_1 : l0_1.length ≤ c0_1) (h : impl_Moment.f k l0_0 l0_1 = some (r1, r2)) :
  Calls Try.prog 21 #[.agg #[.slice A0_0 l0_0.length c0_0, .slice A0_1 l0_1.length c0_1]] w fun e w' => e = .returned (.tuple #[.int .i64 r1, .int .i64 r2]) ∧ Below w.heap.size w w' := by
 have hu26 := Try.underlying26; have HR0_0 := Aside0.mk hr0_0; have HC0_0 := Aside0.mk hc0_0; clear hr0_0 hc0_0; have HR0_1 := Aside0.mk hr0_1; have HC0_1 := Aside0.mk hc0_1; clear hr0_1 hc0_1
 have HB := Aside0.mk (Below.refl w.heap.size w)
 have H : ((impl_RingOk.f k l0_0 l0_1).bind fun t399 => (if t399 = true then (impl_Moment.l0 k 0 0 (l0_0.length : Int) 0 l0_0 l0_1) else (some (0, 0)))) = some (r1, r2) := h
 clear h; replace H := Option.bind_eq_some_iff.mp H
 obtain ⟨t399, A20, H⟩ := H
 replace H : (if t399 = true then (impl_Moment.l0 k 0 0 (l0_0.length : Int) 0 l0_0 l0_1) else (some (0, 0))) = some (r1, r2) := H
 have A2 := Aside0.mk A20; clear A20
 by_cases c3 : t399 = true
 ·subst c3
  have H1 : (impl_Moment.l0 k 0 0 (l0_0.length : Int) 0 l0_0 l0_1) = some (r1, r2) := by rw [if_pos rfl] at H; exact H
  clear H; have H := H1; clear H1; have H' := Aside0.mk H; clear H
  go_enter Try.func21, Try.ntmps21
  go_wp2_with (first | ((with_reducible refine gate_dst (N := 1) rfl ?_); refine box_event ?hg (N := 1) ?hd (cs := #[.slice A0_0 l0_0.length c0_0, .slice A0_1 l0_1.length c0_1]) (t := 26) ?hr ?_; (case hd => rfl); (case hg => rfl); (case hr => first | (go_simp; done) | (go_simp; rfl)); intro gb398 hg w4 hbox hb; have BK398 := Aside0.mk (hbox); have GW398 := gE_ HB hg; have GE398 := gE_ HB hg; replace HB := bS_ HB hb; clear hb hbox hg; have hcz5_0 : w4.cell? ⟨gb398, 0, none⟩ = some (.slice A0_0 l0_0.length c0_0) := (blk_cell BK398.out 0).trans rfl; have hcz5_1 : w4.cell? ⟨gb398, 1, none⟩ = some (.slice A0_1 l0_1.length c0_1) := (blk_cell BK398.out 1).trans rfl; have hfz5_0 := blk_frozen BK398.out 0; have hfz5_1 := blk_frozen BK398.out 1) | ((with_reducible refine gate_callee (f := 22) rfl ?_); refine gL_ (some 8) Try.func22 #[.agg #[.slice A0_0 l0_0.length c0_0, .slice A0_1 l0_1.length c0_1]] ?_; (with_reducible refine (impl_RingOk.calls k _ _ l0_0 _ _ l0_1 true _ ?side1 ?side2 ?side3 ?side4 A2.out).mono ?_); (case side1 => exact cB_ HR0_0 HB); (case side2 => exact HC0_0.out); (case side3 => exact cB_ HR0_1 HB); (case side4 => exact HC0_1.out); rintro e w6 ⟨rfl, hb⟩; refine ⟨_, rfl, ?_⟩; replace BK398 := bB_ BK398 hb; replace HB := bS_ HB hb; (try clear hb); (try clear hb2); (try clear hk); (try clear hi); have hcz7_0 : w6.cell? ⟨gb398, 0, none⟩ = some (.slice A0_0 l0_0.length c0_0) := (blk_cell BK398.out 0).trans rfl; have hcz7_1 : w6.cell? ⟨gb398, 1, none⟩ = some (.slice A0_1 l0_1.length c0_1) := (blk_cell BK398.out 1).trans rfl; have hfz7_0 := blk_frozen BK398.out 0; have hfz7_1 := blk_frozen BK398.out 1))
  go_loopg [4, 5, 13] k (fun kq v4 v5 v13 w' => ∃ (x4_1 : Int) (x5_1 : Int) (x13_1 : Int), v4 = .int .i64 x4_1 ∧ v5 = .int .i64 x5_1 ∧ v13 = .int .i64 x13_1 ∧ Aside0 (impl_Moment.l0 kq x4_1 x5_1 (l0_0.length : Int) x13_1 l0_0 l0_1 = some (r1, r2)) ∧ Aside0 (kq ≤ k) ∧ Aside0 (w'.heap[gb398]? = some (.cells #[(.slice A0_0 l0_0.length c0_0), (.slice A0_1 l0_1.length c0_1)] 26 (0, 0))) ∧ Aside0 (Below w.heap.size w w'))
  case atStart => exact ⟨(0), (0), (0), (by first | rfl | (simp; done) | (simp [*]; done)), (by first | rfl | (simp; done) | (simp [*]; done)), (by first | rfl | (simp; done) | (simp [*]; done)), H', ⟨Nat.le_refl _⟩, ⟨by exact bT_ BK398⟩, ⟨sABelo_9⟩⟩
  case round =>
   clear H'; (try clear c2); (try clear p2); (try clear c3); (try clear hcz5_0); (try clear hcz5_1); (try clear hcz7_0); (try clear hcz7_1); (try clear hfz5_0); (try clear hfz5_1); (try clear hfz7_0); (try clear hfz7_1)
   obtain ⟨x4_1, x5_1, x13_1, rfl, rfl, rfl, HA, HK1, BK398, HB⟩ := hrel
   cases gk with
   | zero => exact absurd HA.out (by simp [impl_Moment.l0])
   | succ k1 =>
    have H := HA.out; clear HA
    simp only [impl_Moment.l0] at H
    by_cases c8 : x13_1 < (l0_0.length : Int)
    ·rw [if_pos c8] at H
     have c8b0 : decide (x13_1 < (l0_0.length : Int)) = true := decide_eq_true c8
     clear c8
     obtain ⟨c9, H⟩ := ifS_ H
     have c9b0 : decide (0 ≤ x13_1) = true := decide_eq_true c9
     clear c9
     obtain ⟨c10, H⟩ := ifS_ H
     have c10b0 : decide (x13_1 < (l0_0.length : Int)) = true := decide_eq_true c10
     clear c10
     obtain ⟨c11, H⟩ := ifS_ H
     have c11b0 : decide (x13_1 < (l0_1.length : Int)) = true := decide_eq_true c11
     clear c11; have H' := Aside0.mk H; clear H
     have hcz12_0 : wr.cell? ⟨gb398, 0, none⟩ = some (.slice A0_0 l0_0.length c0_0) := (blk_cell BK398.out 0).trans rfl
     have hcz12_1 : wr.cell? ⟨gb398, 1, none⟩ = some (.slice A0_1 l0_1.length c0_1) := (blk_cell BK398.out 1).trans rfl
     have hfz12_0 := blk_frozen BK398.out 0; have hfz12_1 := blk_frozen BK398.out 1
     have p400 : 0 ≤ (x13_1 : Int) := of_decide_eq_true (by first | (with_reducible assumption) | assumption)
     have q400 : x13_1 < (l0_0.length : Int) := of_decide_eq_true (by first | (with_reducible assumption) | assumption)
     obtain ⟨ad400, e400, hx400_0⟩ := Kd.at_int HR0_0.out x13_1 p400 q400
     cases e400
     replace hx400_0 := (HB.out.cell (World.block_lt_of_cell? w _ hx400_0)).trans hx400_0
     replace p400 := eq_true p400; replace q400 := eq_true q400
     have p401 : 0 ≤ (x13_1 : Int) := of_decide_eq_true (by first | (with_reducible assumption) | assumption)
     have q401 : x13_1 < (l0_1.length : Int) := of_decide_eq_true (by first | (with_reducible assumption) | assumption)
     obtain ⟨ad401, e401, hx401_0⟩ := Kd.at_int HR0_1.out x13_1 p401 q401
     cases e401
     replace hx401_0 := (HB.out.cell (World.block_lt_of_cell? w _ hx401_0)).trans hx401_0
     replace p401 := eq_true p401; replace q401 := eq_true q401
     go_wp2
     go_roundg k1
     case measure => have := HK1.out; omega
     case rel => exact ⟨(wrap64 (x4_1 + (rd l0_0 x13_1))), (wrap64 (x5_1 + (rd l0_1 x13_1))), (wrap64 (x13_1 + 1)), (by first | rfl | (simp; done) | (simp [*]; done)), (by first | rfl | (simp; done) | (simp [*]; done)), (by first | rfl | (simp; done) | (simp [*]; done)), H', ⟨by have := HK1.out; omega⟩, ⟨by exact bT_ BK398⟩, ⟨sABelo_9⟩⟩
    ·rw [if_neg c8] at H
     have c8b0 : decide (x13_1 < (l0_0.length : Int)) = false := decide_eq_false c8
     clear c8
     simp only [Option.some.injEq, Prod.mk.injEq] at H
     obtain ⟨rfl, rfl⟩ := H
     go_wp2
     go_ret2
     exact ⟨by first | rfl | (simp [errW_none, errW_some] <;> rfl) | (simp [*, errW_none, errW_some] <;> rfl), sABelo_9⟩
 ·replace c3 := Bool.eq_false_iff.mpr c3
  subst c3
  have H1 : (some (0, 0)) = some (r1, r2) := by rw [if_neg (show ¬ (false = true) by decide)] at H; exact H
  clear H; have H := H1; clear H1
  simp only [Option.some.injEq, Prod.mk.injEq] at H
  obtain ⟨rfl, rfl⟩ := H
  go_enter Try.func21, Try.ntmps21
  go_wp2_with (first | ((with_reducible refine gate_dst (N := 1) rfl ?_); refine box_event ?hg (N := 1) ?hd (cs := #[.slice A0_0 l0_0.length c0_0, .slice A0_1 l0_1.length c0_1]) (t := 26) ?hr ?_; (case hd => rfl); (case hg => rfl); (case hr => first | (go_simp; done) | (go_simp; rfl)); intro gb398 hg w13 hbox hb; have BK398 := Aside0.mk (hbox); have GW398 := gE_ HB hg; have GE398 := gE_ HB hg; replace HB := bS_ HB hb; clear hb hbox hg; have hcz14_0 : w13.cell? ⟨gb398, 0, none⟩ = some (.slice A0_0 l0_0.length c0_0) := (blk_cell BK398.out 0).trans rfl; have hcz14_1 : w13.cell? ⟨gb398, 1, none⟩ = some (.slice A0_1 l0_1.length c0_1) := (blk_cell BK398.out 1).trans rfl; have hfz14_0 := blk_frozen BK398.out 0; have hfz14_1 := blk_frozen BK398.out 1) | ((with_reducible refine gate_callee (f := 22) rfl ?_); refine gL_ (some 8) Try.func22 #[.agg #[.slice A0_0 l0_0.length c0_0, .slice A0_1 l0_1.length c0_1]] ?_; (with_reducible refine (impl_RingOk.calls k _ _ l0_0 _ _ l0_1 false _ ?side1 ?side2 ?side3 ?side4 A2.out).mono ?_); (case side1 => exact cB_ HR0_0 HB); (case side2 => exact HC0_0.out); (case side3 => exact cB_ HR0_1 HB); (case side4 => exact HC0_1.out); rintro e w15 ⟨rfl, hb⟩; refine ⟨_, rfl, ?_⟩; replace BK398 := bB_ BK398 hb; replace HB := bS_ HB hb; (try clear hb); (try clear hb2); (try clear hk); (try clear hi)))
  go_ret2
  exact ⟨by first | rfl | (simp [errW_none, errW_some] <;> rfl) | (simp [*, errW_none, errW_some] <;> rfl), sABelo_9⟩

/-! ### laws_sum: function 23 -/
def laws_sum.l0 : Nat → List Int → Int → Int → Option (Int)
 | 0, _, _, _ => none
 | k + 1, x0, x3, x4 => if x4 < (x0.length : Int) then (if 0 ≤ x4 then (laws_sum.l0 k x0 (wrap64 (x3 + (rd x0 x4))) (wrap64 (x4 + 1))) else (none)) else (some x3)
def laws_sum.f (k : Nat) (l0 : List Int) : Option (Int) := laws_sum.l0 k l0 0 0
theorem laws_sum.mono_l : ∀ k, (∀ y0 y1 y2, LeO (laws_sum.l0 k y0 y1 y2) (laws_sum.l0 (k + 1) y0 y1 y2))
 | 0 => fun _ _ _ r h => by simp [laws_sum.l0] at h
 | k + 1 => by
  have ih0 := laws_sum.mono_l k
  ·intro y0 y1 y2
   unfold laws_sum.l0
   repeat' first
   | (with_reducible exact ih0 _ _ _)
   | (with_reducible exact LeO.refl _)
   | (with_reducible exact LeO.none _)
   | (with_reducible refine LeO.ite ?_ ?_)
   | (with_reducible refine LeO.bind ?_ (fun _ => ?_))
   | exact ih0 _ _ _
   | exact LeO.none _
   | refine LeO.ite ?_ ?_
   | refine LeO.bind ?_ (fun _ => ?_)
theorem laws_sum.mono : ∀ a0 k, LeO (laws_sum.f k a0) (laws_sum.f (k + 1) a0) := by
 intro a0 k
 have ih0 := laws_sum.mono_l k
 unfold laws_sum.f
 repeat' first
   | (with_reducible exact ih0 _ _ _)
   | (with_reducible exact LeO.refl _)
   | (with_reducible exact LeO.none _)
   | (with_reducible refine LeO.ite ?_ ?_)
   | (with_reducible refine LeO.bind ?_ (fun _ => ?_))
   | exact ih0 _ _ _
   | exact LeO.none _
   | refine LeO.ite ?_ ?_
   | refine LeO.bind ?_ (fun _ => ?_)
set_option maxHeartbeats 8000000 in
set_option maxRecDepth 100000 in
theorem laws_sum.calls (k : Nat) (A0 : Option Addr) (c0 : Nat) (l0 : List Int) (r : Int) (w : World) (hr0 : Kd.C (Kd.int .i64) w A0 l0.length l0) (hc0 : l0.length ≤ c0) (h : laws_sum.f k l0 = some r) :
  Calls Try.prog 23 #[.slice A0 l0.length c0] w fun e w' => e = .returned (.int .i64 r) ∧ Drawn0 w w' := by
 have HR0 := Aside0.mk hr0; have HC0 := Aside0.mk hc0; clear hr0 hc0
 have H : (laws_sum.l0 k l0 0 0) = some r := h
 clear h; have H' := Aside0.mk H; clear H
 go_enter Try.func23, Try.ntmps23
 go_wp2
 go_loopg [3, 4] k (fun kq v3 v4 w' => ∃ (x3_1 : Int) (x4_1 : Int), v3 = .int .i64 x3_1 ∧ v4 = .int .i64 x4_1 ∧ Aside0 (laws_sum.l0 kq l0 x3_1 x4_1 = some r) ∧ Aside0 (kq ≤ k) ∧ Drawn0 w w')
 case atStart => exact ⟨(0), (0), (by first | rfl | (simp; done) | (simp [*]; done)), (by first | rfl | (simp; done) | (simp [*]; done)), H', ⟨Nat.le_refl _⟩, by repeat (first | exact Drawn0.refl _ | apply Drawn0.step)⟩
 case round =>
  clear H'
  obtain ⟨x3_1, x4_1, rfl, rfl, HA, HK1, ⟨m1, rfl⟩⟩ := hrel
  cases gk with
  | zero => exact absurd HA.out (by simp [laws_sum.l0])
  | succ k1 =>
   have H := HA.out; clear HA
   simp only [laws_sum.l0] at H
   by_cases c2 : x4_1 < (l0.length : Int)
   ·rw [if_pos c2] at H
    have c2b0 : decide (x4_1 < (l0.length : Int)) = true := decide_eq_true c2
    clear c2
    obtain ⟨c3, H⟩ := ifS_ H
    have c3b0 : decide (0 ≤ x4_1) = true := decide_eq_true c3
    clear c3; have H' := Aside0.mk H; clear H
    have p402 : 0 ≤ (x4_1 : Int) := of_decide_eq_true (by first | (with_reducible assumption) | assumption)
    have q402 : x4_1 < (l0.length : Int) := of_decide_eq_true (by first | (with_reducible assumption) | assumption)
    obtain ⟨ad402, e402, hx402_0⟩ := Kd.at_int HR0.out x4_1 p402 q402
    cases e402
    replace p402 := eq_true p402; replace q402 := eq_true q402
    go_wp2
    go_roundg k1
    case measure => have := HK1.out; omega
    case rel => exact ⟨(wrap64 (x3_1 + (rd l0 x4_1))), (wrap64 (x4_1 + 1)), (by first | rfl | (simp; done) | (simp [*]; done)), (by first | rfl | (simp; done) | (simp [*]; done)), H', ⟨by have := HK1.out; omega⟩, by repeat (first | exact Drawn0.refl _ | apply Drawn0.step)⟩
   ·rw [if_neg c2] at H
    have c2b0 : decide (x4_1 < (l0.length : Int)) = false := decide_eq_false c2
    clear c2
    obtain rfl := Option.some.inj H
    go_wp2
    go_ret
    exact ⟨by first | rfl | (simp; done) | (simp [*]; done), by repeat (first | exact Drawn0.refl _ | apply Drawn0.step)⟩

end Go.Proofs.Ytjmpgngndnheaaa.QFnRingKept
