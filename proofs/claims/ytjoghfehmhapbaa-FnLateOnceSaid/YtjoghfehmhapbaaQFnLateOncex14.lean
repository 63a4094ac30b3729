-- Written by a program of this session out of the printer's texts and contracts of its own.
import Derived.Test.YtjoghfehmhapbaaSq
import Derived.Test.YtjoghfehmhapbaaQFnLateOncex0
import Derived.Test.YtjoghfehmhapbaaQFnLateOncex2
import Derived.Test.YtjoghfehmhapbaaQFnLateOncex13
namespace Go.Proofs.Ytjoghfehmhapbaa.QFnLateOnce
open Go.RowKit Go.Proofs.YtjoghfehmhapbaaW.PrintWords Go.Proofs.YtjoghfehmhapbaaW.PrintLast Go.Proofs.YtjoghfehmhapbaaW.PrintMore Go.Proofs.Ytjoghfehmhapbaa.Sq
attribute [local go_sem] max2_int min2_int max_two min_two max_three min_three max_four min_four   -- for this text's walks alone
set_option linter.unusedVariables false
set_option linter.unusedSimpArgs false
theorem sABelo_14 {b : Nat} {w W : World} (h : Below b w W := by repeat (first | (with_reducible first | exact Aside0.out (by assumption) | apply below_alloc | apply pw_below_drewN | apply below_drew1 | refine below_set ?_ (IsS99.ge (Aside0.out (by assumption))) | refine below_set ?_ (Aside0.out (by assumption))) | exact Aside0.out (by assumption))) : Below b w W := h
theorem sAIsS99_14 {w0 W : World} {g : Nat} {f0 : List Int} {f1 : Int} (h : IsS99 w0 W g f0 f1 := by repeat (first | (with_reducible first | exact Aside0.out (by assumption) | apply IsS99.alloc | apply IsS99.drewN | apply IsS99.drew | apply IsS99.set_1 | refine IsS99.far ?_ (Aside0.out (by assumption)) _) | exact Aside0.out (by assumption))) : IsS99 w0 W g f0 f1 := h

/-! ### spec_DrawTickRun: function 23 -/
def spec_DrawTickRun.f (k : Nat) (l0 : List Int) : Option ((List (S39)) × List Int × Int × (List (S43)) × Int) := (spec_l1Open.f l0).bind fun bt446 => ((spec_l24Draw.f k bt446.1 bt446.2).bind fun bt449 => ((spec_l1Rd_once.f bt446.1 bt449.2.2.2.2 9).bind fun bt461 => (if bt461.1 = true then ((spec_l1Rd_number.f k bt446.1 bt461.2).bind fun bt463 => (some (bt449.1, bt449.2.1, bt449.2.2.1, bt449.2.2.2.1, bt463.1))) else ((spec_l1Rd_below.f bt446.1 bt461.2 60).bind fun bt465 => (some (bt449.1, bt449.2.1, bt449.2.2.1, bt449.2.2.2.1, bt465.1))))))
theorem spec_DrawTickRun.mono : ∀ a0 k, LeO (spec_DrawTickRun.f k a0) (spec_DrawTickRun.f (k + 1) a0) := by
 intro a0 k
 unfold spec_DrawTickRun.f
 repeat' first
   | (with_reducible exact spec_l1Rd_number.mono _ _ _)
   | (with_reducible exact spec_l24Draw.mono _ _ _)
   | (with_reducible exact LeO.refl _)
   | (with_reducible exact LeO.none _)
   | (with_reducible refine LeO.ite ?_ ?_)
   | (with_reducible refine LeO.bind ?_ (fun _ => ?_))
   | exact LeO.none _
   | refine LeO.ite ?_ ?_
   | refine LeO.bind ?_ (fun _ => ?_)
set_option maxHeartbeats 8000000 in
set_option maxRecDepth 100000 in
theorem spec_DrawTickRun.calls (k : Nat) (A0 : Option Addr) (c0 : Nat) (l0 : List Int) (r1 : List (S39)) (r2 : List Int) (r3 : Int) (r4 : List (S43)) (r5 : Int) (w : World) (hr0 : Kd.C (Kd.int .u8) w A0 l0.length l0) (hc0 : l0.length ≤ c0) (h : spec_DrawTickRun.f k l0 = some (r1, r2, r3, r4, r5)) :
  Calls Try.prog 23 #[.slice A0 l0.length c0] w fun e w' => ∃ v0_ v1_ v3_ : Value, e = .returned (.tuple #[.agg #[v0_, v1_, .int .i64 r3, v3_], .int .i64 r5]) ∧ Kd.S k39 39 w' w.heap.size (fun k_ => some k_ ≠ (v1_ : Value).ownBlock) v0_ r1 ∧ Kd.R (Kd.int .i64) 2 w' w.heap.size (fun _ => True) v1_ r2 ∧ Kd.Q k43 43 w' w.heap.size (fun _ => True) v3_ r4 ∧ Below w.heap.size w w' := by
 have hu31 := Try.underlying31; have HR0 := mk_ hr0; have HC0 := mk_ hc0; clear hr0 hc0
 have HB := mk_ (Below.refl w.heap.size w)
 have H : ((spec_l1Open.f l0).bind fun bt446 => ((spec_l24Draw.f k bt446.1 bt446.2).bind fun bt449 => ((spec_l1Rd_once.f bt446.1 bt449.2.2.2.2 9).bind fun bt461 => (if bt461.1 = true then ((spec_l1Rd_number.f k bt446.1 bt461.2).bind fun bt463 => (some (bt449.1, bt449.2.1, bt449.2.2.1, bt449.2.2.2.1, bt463.1))) else ((spec_l1Rd_below.f bt446.1 bt461.2 60).bind fun bt465 => (some (bt449.1, bt449.2.1, bt449.2.2.1, bt449.2.2.2.1, bt465.1))))))) = some (r1, r2, r3, r4, r5) := h
 clear h; replace H := Option.bind_eq_some_iff.mp H
 obtain ⟨⟨t446, t447⟩, A20, H⟩ := H
 (try dsimp only at H)
 have A2 := mk_ A20; clear A20; replace H := Option.bind_eq_some_iff.mp H
 obtain ⟨⟨t449, t452, t455, t456, t459⟩, A30, H⟩ := H
 (try dsimp only at H)
 have A3 := mk_ A30; clear A30; replace H := Option.bind_eq_some_iff.mp H
 obtain ⟨⟨t461, t462⟩, A40, H⟩ := H
 (try dsimp only at H)
 have A4 := mk_ A40; clear A40
 by_cases c5 : t461 = true
 ·subst c5
  replace H := ifT_ H; replace H := Option.bind_eq_some_iff.mp H
  obtain ⟨⟨t463, t464⟩, A60, H⟩ := H
  (try dsimp only at H)
  have A6 := mk_ A60; clear A60
  simp only [Option.some.injEq, Prod.mk.injEq] at H
  obtain ⟨rfl, rfl, rfl, rfl, rfl⟩ := H
  go_enter Try.func23, Try.ntmps23
  try go_wp2_with (first | ((with_reducible refine gate_dst (N := 2) rfl ?_); refine box_event ?hg (N := 2) ?hd (cs := #[.slice none 0 0, .slice none 0 0, .int .i64 0, .slice none 0 0]) (t := 31) ?hr ?_; (case hd => rfl); (case hg => rfl); (case hr => first | (go_simp; done) | (go_simp; rfl)); intro gb445 hg w7 hbox hb; have BK445 := mk_ (hbox); have GW445 := gE_ HB hg; have GE445 := gE_ HB hg; replace HB := bS_ HB hb; clear hb hbox hg) | ((with_reducible refine gate_callee (f := 43) rfl ?_); refine gL_ (some 7) Try.func43 #[.slice A0 l0.length c0] ?_; (with_reducible refine (spec_l1Open.calls _ _ l0 t446 t447 w _ ?side1 ?side2 ?side3 A2.out).mono ?_); (case side1 => exact sABelo_14); (case side2 => exact HR0.out); (case side3 => exact HC0.out); rintro e w8 ⟨g448, rfl, hi, hb, hb2⟩; refine ⟨_, rfl, ?_⟩; replace HB := mk_ (hb); have HI448 := mk_ (hi); have NB448_445 := mk_ (IsS99.ne_blk hi (blk_below (g := gb445) (o := .cells #[.slice none 0 0, .slice none 0 0, .int .i64 0, .slice none 0 0] 31 (0, 0)) (bT_ BK445) hb2) (by decide)); have NB445_448 := mk_ (Ne.symm (IsS99.ne_blk hi (blk_below (g := gb445) (o := .cells #[.slice none 0 0, .slice none 0 0, .int .i64 0, .slice none 0 0] 31 (0, 0)) (bT_ BK445) hb2) (by decide))); replace BK445 := mk_ (blk_below (g := gb445) (o := .cells #[.slice none 0 0, .slice none 0 0, .int .i64 0, .slice none 0 0] 31 (0, 0)) (bT_ BK445) hb2); (try clear hb); (try clear hb2); (try clear hi)) | ((with_reducible refine gate_callee (f := 55) rfl ?_); refine gL_ (some 9) Try.func55 #[.pointer (some ⟨g448, 0, none⟩)] ?_; (with_reducible refine (spec_l24Draw.calls k g448 t446 t447 t449 t452 t455 t456 t459 w _ ?side1 ?side2 A3.out).mono ?_); (case side1 => exact sAIsS99_14); (case side2 => exact sABelo_14); rintro e w9 ⟨v450, v453, v457, rfl, ho0, ho1, ho2, hi, hb, hk⟩; refine ⟨_, rfl, ?_⟩; replace BK445 := kB_ hk (bT_ BK445) NB445_448; have HO451 := mk_ (Kd.S_lower ho0 (below_size sABelo_14)); have HO454 := mk_ (Kd.R_lower ho1 (below_size sABelo_14)); have HO458 := mk_ (Kd.Q_lower ho2 (below_size sABelo_14)); replace HB := mk_ (hb); replace HI448 := mk_ (hi); (try clear hb); (try clear hb2); (try clear hk); (try clear hi); (try clear ho0); (try clear ho1); (try clear ho2)) | ((with_reducible refine gate_dst (N := 5) rfl ?_); refine box_event ?hg (N := 5) ?hd (cs := #[.slice none 0 0, .slice none 0 0, .int .i64 0, .slice none 0 0]) (t := 31) ?hr ?_; (case hd => rfl); (case hg => rfl); (case hr => first | (go_simp; done) | (go_simp; rfl)); intro gb460 hg w10 hbox hb; replace HO451 := sB_ HO451 hb; replace HO454 := rB_ HO454 hb; replace HO458 := qB_ HO458 hb; have BK460 := mk_ (hbox); have GW460 := mk_ ((by rw [hg]; exact (below_size sABelo_14) : w.heap.size ≤ gb460)); have GE460 := mk_ ((by rw [hg]; exact (below_size sABelo_14) : w.heap.size ≤ gb460)); replace HB := mk_ (below_step sABelo_14 hb); have NB445_460 := nL_ BK445 hg; have NB460_445 := nG_ BK445 hg; replace BK445 := bB_ BK445 hb; have NB448_460 := mk_ ((by rw [hg]; exact Nat.ne_of_lt (IsS99.lt (show IsS99 w _ g448 t446 t459 from sAIsS99_14)) : g448 ≠ gb460)); have NB460_448 := mk_ ((by rw [hg]; exact Nat.ne_of_gt (IsS99.lt (show IsS99 w _ g448 t446 t459 from sAIsS99_14)) : gb460 ≠ g448)); replace HI448 := mk_ (IsS99.below sAIsS99_14 hb); clear hb hbox hg; obtain ⟨Ao11, co11, eo11⟩ := Kd.S_slice HO451.out; subst eo11; have hnb12 := NB460_445.out; have hnc12 := NB445_460.out; have hnb13 := NB460_448.out; have hnc13 := NB448_460.out; obtain ⟨hcz14_0, hcz14_1, hcz14_2, hcz14_3, hfz14_0, hfz14_1, hfz14_2, hfz14_3⟩ := cf4_ BK460; obtain ⟨Ao15, co15, eo15⟩ := Kd.R_slice HO454.out; subst eo15; obtain ⟨Ao16, co16, eo16, _⟩ := Kd.Q_slice HO458.out; subst eo16) | ((with_reducible refine gate_callee (f := 57) rfl ?_); refine gL_ (some 11) Try.func57 #[.pointer (some ⟨g448, 0, none⟩), .int .i64 9] ?_; (with_reducible refine (spec_l1Rd_once.calls g448 t446 t459 9 true t462 w _ ?side1 ?side2 A4.out).mono ?_); (case side1 => exact sAIsS99_14); (case side2 => exact sABelo_14); rintro e w17 ⟨rfl, hi, hb, hk⟩; refine ⟨_, rfl, ?_⟩; replace BK445 := kB_ hk (bF_ BK445 NB445_460) NB445_448; replace HO451 := mk_ (Kd.S_mono (Kd.S_keep (IsS99.apartS (show IsS99 w _ g448 t446 t459 from sAIsS99_14) (sF_ HO451 BK460) (by decide)) hk (fun _ h => h.2)) (fun _ h => h.1)); replace HO454 := mk_ (Kd.R_mono (Kd.R_keep (IsS99.apart (show IsS99 w _ g448 t446 t459 from sAIsS99_14) (rF_ HO454 BK460) (by decide)) hk (fun _ h => h.2)) (fun _ h => h.1)); replace HO458 := mk_ (Kd.Q_mono (Kd.Q_keep (IsS99.apartQ (show IsS99 w _ g448 t446 t459 from sAIsS99_14) (qF_ HO458 BK460) (by decide)) hk (fun _ h => h.2)) (fun _ h => h.1)); replace BK460 := kB_ hk (bP_ BK460) NB460_448; replace HB := mk_ (hb); replace HI448 := mk_ (hi); (try clear hb); (try clear hb2); (try clear hk); (try clear hi)))
  replace HO451 := mk_ (Kd.S_drew HO451.out)
  replace HO454 := mk_ (Kd.R_drew HO454.out)
  replace HO458 := mk_ (Kd.Q_drew HO458.out)
  replace BK445 := mk_ (blk_drew BK445.out)
  replace BK460 := mk_ (blk_drew BK460.out)
  replace HI448 := mk_ (IsS99.drew HI448.out)
  replace HB := mk_ (below_drew1 HB.out)
  refine start_ (n := 5) (S := fun w' => w'.cell? ⟨gb460, 0, none⟩ = some (.slice Ao11 t449.length co11) ∧ w'.cell? ⟨gb460, 1, none⟩ = some (.slice Ao15 t452.length co15) ∧ w'.cell? ⟨gb460, 2, none⟩ = some (.int .i64 t455) ∧ w'.cell? ⟨gb460, 3, none⟩ = some (.slice Ao16 t456.length co16)) (ds := []) (uu 0 5) (by kernel_rfl) rfl rfl ⟨(blk_cell BK460.out 0).trans rfl, (blk_cell BK460.out 1).trans rfl, (blk_cell BK460.out 2).trans rfl, (blk_cell BK460.out 3).trans rfl⟩ (fun hHeld => ?_)
  generalize w17.drew = w18 at HO451 HO454 HO458 BK445 BK460 HI448 HB hHeld ⊢
  refine pB_ 1 (some 13) #[false, true, false, false, false] ?_
  refine tB_ 0 (some 12) (uu 2 3) hHeld ?_ (hy := by rintro w' ⟨s0, s1, s2, s3⟩; go_simp; with_reducible rfl)
  refine one_ (i := 2) (N := some 14) (uu 3 2) rfl rfl (by kernel_rfl) (by decide) (fun K hK => ?_)
  refine goes_ Try.func61 (by kernel_rfl) rfl #[.pointer (some ⟨g448, 0, none⟩)] (by rfl) rfl rfl (by (try simp only [List.map_toArray, List.map_cons, List.map_nil]); first | done | rfl | (simp only [List.length_drop, List.length_take]; rfl)) ?_
  with_reducible refine (spec_l1Rd_number.calls k g448 t446 t462 t463 t464 w _ ?side1 ?side2 A6.out).mono ?_
  (case side1 => exact sAIsS99_14)
  (case side2 => exact sABelo_14)
  rintro e w19 ⟨rfl, hi, hb, hk⟩
  refine ⟨_, rfl, ?_⟩
  replace BK445 := kB_ hk (bT_ BK445) NB445_448
  replace HO451 := mk_ (Kd.S_mono (Kd.S_keep (IsS99.apartS (show IsS99 w _ g448 t446 t462 from sAIsS99_14) (sT_ HO451) (by decide)) hk (fun _ h => h.2)) (fun _ h => h.1))
  replace HO454 := mk_ (Kd.R_mono (Kd.R_keep (IsS99.apart (show IsS99 w _ g448 t446 t462 from sAIsS99_14) (rT_ HO454) (by decide)) hk (fun _ h => h.2)) (fun _ h => h.1))
  replace HO458 := mk_ (Kd.Q_mono (Kd.Q_keep (IsS99.apartQ (show IsS99 w _ g448 t446 t462 from sAIsS99_14) (qT_ HO458) (by decide)) hk (fun _ h => h.2)) (fun _ h => h.1))
  replace BK460 := kB_ hk (bT_ BK460) NB460_448
  replace HB := mk_ (hb)
  replace HI448 := mk_ (hi)
  (try clear hb); (try clear hb2); (try clear hk); (try clear hi)
  refine hK.out _ _ ⟨(blk_cell BK460.out 0).trans rfl, (blk_cell BK460.out 1).trans rfl, (blk_cell BK460.out 2).trans rfl, (blk_cell BK460.out 3).trans rfl⟩ (fun hHeld => ?_)
  clear hK K
  refine nS_ (some 14) ?_
  refine one_ (i := 3) (N := none) (uu 4 1) rfl rfl (by kernel_rfl) (by decide) (fun K hK => ?_)
  have hs20 : w19.cell? ⟨gb445, 0, none⟩ = some (.slice none 0 0) := (blk_cell BK445.out 0).trans rfl
  have hfs20 := blk_frozen BK445.out 0; have hns20_1 := NB460_445.out; have hms20_1 := NB445_460.out
  have hs21 : w19.cell? ⟨gb445, 1, none⟩ = some (.slice none 0 0) := (blk_cell BK445.out 1).trans rfl
  have hfs21 := blk_frozen BK445.out 1; have hns21_1 := NB460_445.out; have hms21_1 := NB445_460.out
  have hs22 : w19.cell? ⟨gb445, 2, none⟩ = some (.int .i64 0) := (blk_cell BK445.out 2).trans rfl
  have hfs22 := blk_frozen BK445.out 2; have hns22_1 := NB460_445.out; have hms22_1 := NB445_460.out
  have hs23 : w19.cell? ⟨gb445, 3, none⟩ = some (.slice none 0 0) := (blk_cell BK445.out 3).trans rfl
  have hfs23 := blk_frozen BK445.out 3; have hns23_1 := NB460_445.out; have hms23_1 := NB445_460.out
  refine skip_ (w1 := ?_) (by rfl) rfl ?_ ?_
  rotate_left
  ·go_simp
   rfl
  refine hK.out _ _ ⟨((cell_far (p := ⟨gb445, _, none⟩) NB460_445.out _).trans (((cell_far (p := ⟨gb445, _, none⟩) NB460_445.out _).trans (((cell_far (p := ⟨gb445, _, none⟩) NB460_445.out _).trans (((cell_far (p := ⟨gb445, _, none⟩) NB460_445.out _).trans (hHeld.1)))))))), ((cell_far (p := ⟨gb445, _, none⟩) NB460_445.out _).trans (((cell_far (p := ⟨gb445, _, none⟩) NB460_445.out _).trans (((cell_far (p := ⟨gb445, _, none⟩) NB460_445.out _).trans (((cell_far (p := ⟨gb445, _, none⟩) NB460_445.out _).trans (hHeld.2.1)))))))), ((cell_far (p := ⟨gb445, _, none⟩) NB460_445.out _).trans (((cell_far (p := ⟨gb445, _, none⟩) NB460_445.out _).trans (((cell_far (p := ⟨gb445, _, none⟩) NB460_445.out _).trans (((cell_far (p := ⟨gb445, _, none⟩) NB460_445.out _).trans (hHeld.2.2.1)))))))), ((cell_far (p := ⟨gb445, _, none⟩) NB460_445.out _).trans (((cell_far (p := ⟨gb445, _, none⟩) NB460_445.out _).trans (((cell_far (p := ⟨gb445, _, none⟩) NB460_445.out _).trans (((cell_far (p := ⟨gb445, _, none⟩) NB460_445.out _).trans (hHeld.2.2.2))))))))⟩ (fun hHeld => ?_)
  clear hK K
  refine pB_ 4 (some 3) (uu 5 0) ?_
  refine done_ (by kernel_rfl) ?_
  try go_wp2
  refine bodyPost_ret (results_ct rfl _ _ gb445 31 #[.slice Ao11 t449.length co11, .slice Ao15 t452.length co15, .int .i64 t455, .slice Ao16 t456.length co16] (0, 0) _ rfl (bP_ BK445) Try.underlying31 rfl (by kernel_rfl)) rfl ?_
  exact ⟨_, _, _, eW_, by (with_reducible repeat (first | apply Kd.S_alloc | apply Kd.S_drewN | apply Kd.S_drew)); exact Kd.S_mono (Kd.S_far (p := ⟨gb445, 3, none⟩) (Kd.S_far (p := ⟨gb445, 2, none⟩) (Kd.S_far (p := ⟨gb445, 1, none⟩) (Kd.S_far (p := ⟨gb445, 0, none⟩) (Kd.S_types HO451.out BK445.out (by decide)) (fun _ hk => hk.2) (.slice Ao11 t449.length co11)) (fun _ hk => hk.2) (.slice Ao15 t452.length co15)) (fun _ hk => hk.2) (.int .i64 t455)) (fun _ hk => hk.2) (.slice Ao16 t456.length co16)) (fun _ hk => hk.1), by (with_reducible repeat (first | apply Kd.R_alloc | apply Kd.R_drewN | apply Kd.R_drew)); exact Kd.R_mono (Kd.R_far (p := ⟨gb445, 3, none⟩) (Kd.R_far (p := ⟨gb445, 2, none⟩) (Kd.R_far (p := ⟨gb445, 1, none⟩) (Kd.R_far (p := ⟨gb445, 0, none⟩) (Kd.R_types HO454.out BK445.out (by decide)) (fun _ hk => hk.2) (.slice Ao11 t449.length co11)) (fun _ hk => hk.2) (.slice Ao15 t452.length co15)) (fun _ hk => hk.2) (.int .i64 t455)) (fun _ hk => hk.2) (.slice Ao16 t456.length co16)) (fun _ hk => trivial), by (with_reducible repeat (first | apply Kd.Q_alloc | apply Kd.Q_drewN | apply Kd.Q_drew)); exact Kd.Q_mono (Kd.Q_far (p := ⟨gb445, 3, none⟩) (Kd.Q_far (p := ⟨gb445, 2, none⟩) (Kd.Q_far (p := ⟨gb445, 1, none⟩) (Kd.Q_far (p := ⟨gb445, 0, none⟩) (Kd.Q_types HO458.out BK445.out (by decide)) (fun _ hk => hk.2) (.slice Ao11 t449.length co11)) (fun _ hk => hk.2) (.slice Ao15 t452.length co15)) (fun _ hk => hk.2) (.int .i64 t455)) (fun _ hk => hk.2) (.slice Ao16 t456.length co16)) (fun _ hk => trivial), sABelo_14⟩
 ·replace c5 := Bool.eq_false_iff.mpr c5
  subst c5
  replace H := ifF_ H; replace H := Option.bind_eq_some_iff.mp H
  obtain ⟨⟨t465, t466⟩, A240, H⟩ := H
  (try dsimp only at H)
  have A24 := mk_ A240; clear A240
  simp only [Option.some.injEq, Prod.mk.injEq] at H
  obtain ⟨rfl, rfl, rfl, rfl, rfl⟩ := H
  go_enter Try.func23, Try.ntmps23
  try go_wp2_with (first | ((with_reducible refine gate_dst (N := 2) rfl ?_); refine box_event ?hg (N := 2) ?hd (cs := #[.slice none 0 0, .slice none 0 0, .int .i64 0, .slice none 0 0]) (t := 31) ?hr ?_; (case hd => rfl); (case hg => rfl); (case hr => first | (go_simp; done) | (go_simp; rfl)); intro gb445 hg w25 hbox hb; have BK445 := mk_ (hbox); have GW445 := gE_ HB hg; have GE445 := gE_ HB hg; replace HB := bS_ HB hb; clear hb hbox hg) | ((with_reducible refine gate_callee (f := 43) rfl ?_); refine gL_ (some 7) Try.func43 #[.slice A0 l0.length c0] ?_; (with_reducible refine (spec_l1Open.calls _ _ l0 t446 t447 w _ ?side1 ?side2 ?side3 A2.out).mono ?_); (case side1 => exact sABelo_14); (case side2 => exact HR0.out); (case side3 => exact HC0.out); rintro e w26 ⟨g448, rfl, hi, hb, hb2⟩; refine ⟨_, rfl, ?_⟩; replace HB := mk_ (hb); have HI448 := mk_ (hi); have NB448_445 := mk_ (IsS99.ne_blk hi (blk_below (g := gb445) (o := .cells #[.slice none 0 0, .slice none 0 0, .int .i64 0, .slice none 0 0] 31 (0, 0)) (bT_ BK445) hb2) (by decide)); have NB445_448 := mk_ (Ne.symm (IsS99.ne_blk hi (blk_below (g := gb445) (o := .cells #[.slice none 0 0, .slice none 0 0, .int .i64 0, .slice none 0 0] 31 (0, 0)) (bT_ BK445) hb2) (by decide))); replace BK445 := mk_ (blk_below (g := gb445) (o := .cells #[.slice none 0 0, .slice none 0 0, .int .i64 0, .slice none 0 0] 31 (0, 0)) (bT_ BK445) hb2); (try clear hb); (try clear hb2); (try clear hi)) | ((with_reducible refine gate_callee (f := 55) rfl ?_); refine gL_ (some 9) Try.func55 #[.pointer (some ⟨g448, 0, none⟩)] ?_; (with_reducible refine (spec_l24Draw.calls k g448 t446 t447 t449 t452 t455 t456 t459 w _ ?side1 ?side2 A3.out).mono ?_); (case side1 => exact sAIsS99_14); (case side2 => exact sABelo_14); rintro e w27 ⟨v450, v453, v457, rfl, ho0, ho1, ho2, hi, hb, hk⟩; refine ⟨_, rfl, ?_⟩; replace BK445 := kB_ hk (bT_ BK445) NB445_448; have HO451 := mk_ (Kd.S_lower ho0 (below_size sABelo_14)); have HO454 := mk_ (Kd.R_lower ho1 (below_size sABelo_14)); have HO458 := mk_ (Kd.Q_lower ho2 (below_size sABelo_14)); replace HB := mk_ (hb); replace HI448 := mk_ (hi); (try clear hb); (try clear hb2); (try clear hk); (try clear hi); (try clear ho0); (try clear ho1); (try clear ho2)) | ((with_reducible refine gate_dst (N := 5) rfl ?_); refine box_event ?hg (N := 5) ?hd (cs := #[.slice none 0 0, .slice none 0 0, .int .i64 0, .slice none 0 0]) (t := 31) ?hr ?_; (case hd => rfl); (case hg => rfl); (case hr => first | (go_simp; done) | (go_simp; rfl)); intro gb460 hg w28 hbox hb; replace HO451 := sB_ HO451 hb; replace HO454 := rB_ HO454 hb; replace HO458 := qB_ HO458 hb; have BK460 := mk_ (hbox); have GW460 := mk_ ((by rw [hg]; exact (below_size sABelo_14) : w.heap.size ≤ gb460)); have GE460 := mk_ ((by rw [hg]; exact (below_size sABelo_14) : w.heap.size ≤ gb460)); replace HB := mk_ (below_step sABelo_14 hb); have NB445_460 := nL_ BK445 hg; have NB460_445 := nG_ BK445 hg; replace BK445 := bB_ BK445 hb; have NB448_460 := mk_ ((by rw [hg]; exact Nat.ne_of_lt (IsS99.lt (show IsS99 w _ g448 t446 t459 from sAIsS99_14)) : g448 ≠ gb460)); have NB460_448 := mk_ ((by rw [hg]; exact Nat.ne_of_gt (IsS99.lt (show IsS99 w _ g448 t446 t459 from sAIsS99_14)) : gb460 ≠ g448)); replace HI448 := mk_ (IsS99.below sAIsS99_14 hb); clear hb hbox hg; obtain ⟨Ao29, co29, eo29⟩ := Kd.S_slice HO451.out; subst eo29; have hnb30 := NB460_445.out; have hnc30 := NB445_460.out; have hnb31 := NB460_448.out; have hnc31 := NB448_460.out; obtain ⟨hcz32_0, hcz32_1, hcz32_2, hcz32_3, hfz32_0, hfz32_1, hfz32_2, hfz32_3⟩ := cf4_ BK460; obtain ⟨Ao33, co33, eo33⟩ := Kd.R_slice HO454.out; subst eo33; obtain ⟨Ao34, co34, eo34, _⟩ := Kd.Q_slice HO458.out; subst eo34) | ((with_reducible refine gate_callee (f := 57) rfl ?_); refine gL_ (some 11) Try.func57 #[.pointer (some ⟨g448, 0, none⟩), .int .i64 9] ?_; (with_reducible refine (spec_l1Rd_once.calls g448 t446 t459 9 false t462 w _ ?side1 ?side2 A4.out).mono ?_); (case side1 => exact sAIsS99_14); (case side2 => exact sABelo_14); rintro e w35 ⟨rfl, hi, hb, hk⟩; refine ⟨_, rfl, ?_⟩; replace BK445 := kB_ hk (bF_ BK445 NB445_460) NB445_448; replace HO451 := mk_ (Kd.S_mono (Kd.S_keep (IsS99.apartS (show IsS99 w _ g448 t446 t459 from sAIsS99_14) (sF_ HO451 BK460) (by decide)) hk (fun _ h => h.2)) (fun _ h => h.1)); replace HO454 := mk_ (Kd.R_mono (Kd.R_keep (IsS99.apart (show IsS99 w _ g448 t446 t459 from sAIsS99_14) (rF_ HO454 BK460) (by decide)) hk (fun _ h => h.2)) (fun _ h => h.1)); replace HO458 := mk_ (Kd.Q_mono (Kd.Q_keep (IsS99.apartQ (show IsS99 w _ g448 t446 t459 from sAIsS99_14) (qF_ HO458 BK460) (by decide)) hk (fun _ h => h.2)) (fun _ h => h.1)); replace BK460 := kB_ hk (bP_ BK460) NB460_448; replace HB := mk_ (hb); replace HI448 := mk_ (hi); (try clear hb); (try clear hb2); (try clear hk); (try clear hi)))
  replace HO451 := mk_ (Kd.S_drew HO451.out)
  replace HO454 := mk_ (Kd.R_drew HO454.out)
  replace HO458 := mk_ (Kd.Q_drew HO458.out)
  replace BK445 := mk_ (blk_drew BK445.out)
  replace BK460 := mk_ (blk_drew BK460.out)
  replace HI448 := mk_ (IsS99.drew HI448.out)
  replace HB := mk_ (below_drew1 HB.out)
  refine start_ (n := 5) (S := fun w' => w'.cell? ⟨gb460, 0, none⟩ = some (.slice Ao29 t449.length co29) ∧ w'.cell? ⟨gb460, 1, none⟩ = some (.slice Ao33 t452.length co33) ∧ w'.cell? ⟨gb460, 2, none⟩ = some (.int .i64 t455) ∧ w'.cell? ⟨gb460, 3, none⟩ = some (.slice Ao34 t456.length co34)) (ds := []) (uu 0 5) (by kernel_rfl) rfl rfl ⟨(blk_cell BK460.out 0).trans rfl, (blk_cell BK460.out 1).trans rfl, (blk_cell BK460.out 2).trans rfl, (blk_cell BK460.out 3).trans rfl⟩ (fun hHeld => ?_)
  generalize w35.drew = w36 at HO451 HO454 HO458 BK445 BK460 HI448 HB hHeld ⊢
  refine pB_ 1 (some 16) #[false, true, false, false, false] ?_
  refine tB_ 0 (some 15) (uu 2 3) hHeld ?_ (hy := by rintro w' ⟨s0, s1, s2, s3⟩; go_simp; with_reducible rfl)
  refine one_ (i := 2) (N := some 17) (uu 3 2) rfl rfl (by kernel_rfl) (by decide) (fun K hK => ?_)
  refine goes_ Try.func56 (by kernel_rfl) rfl #[.pointer (some ⟨g448, 0, none⟩), .int .i64 60] (by rfl) rfl rfl (by (try simp only [List.map_toArray, List.map_cons, List.map_nil]); first | done | rfl | (simp only [List.length_drop, List.length_take]; rfl)) ?_
  with_reducible refine (spec_l1Rd_below.calls g448 t446 t462 60 t465 t466 w _ ?side1 ?side2 A24.out).mono ?_
  (case side1 => exact sAIsS99_14)
  (case side2 => exact sABelo_14)
  rintro e w37 ⟨rfl, hi, hb, hk⟩
  refine ⟨_, rfl, ?_⟩
  replace BK445 := kB_ hk (bT_ BK445) NB445_448
  replace HO451 := mk_ (Kd.S_mono (Kd.S_keep (IsS99.apartS (show IsS99 w _ g448 t446 t462 from sAIsS99_14) (sT_ HO451) (by decide)) hk (fun _ h => h.2)) (fun _ h => h.1))
  replace HO454 := mk_ (Kd.R_mono (Kd.R_keep (IsS99.apart (show IsS99 w _ g448 t446 t462 from sAIsS99_14) (rT_ HO454) (by decide)) hk (fun _ h => h.2)) (fun _ h => h.1))
  replace HO458 := mk_ (Kd.Q_mono (Kd.Q_keep (IsS99.apartQ (show IsS99 w _ g448 t446 t462 from sAIsS99_14) (qT_ HO458) (by decide)) hk (fun _ h => h.2)) (fun _ h => h.1))
  replace BK460 := kB_ hk (bT_ BK460) NB460_448
  replace HB := mk_ (hb)
  replace HI448 := mk_ (hi)
  (try clear hb); (try clear hb2); (try clear hk); (try clear hi)
  refine hK.out _ _ ⟨(blk_cell BK460.out 0).trans rfl, (blk_cell BK460.out 1).trans rfl, (blk_cell BK460.out 2).trans rfl, (blk_cell BK460.out 3).trans rfl⟩ (fun hHeld => ?_)
  clear hK K
  refine nS_ (some 17) ?_
  refine one_ (i := 3) (N := none) (uu 4 1) rfl rfl (by kernel_rfl) (by decide) (fun K hK => ?_)
  have hs38 : w37.cell? ⟨gb445, 0, none⟩ = some (.slice none 0 0) := (blk_cell BK445.out 0).trans rfl
  have hfs38 := blk_frozen BK445.out 0; have hns38_1 := NB460_445.out; have hms38_1 := NB445_460.out
  have hs39 : w37.cell? ⟨gb445, 1, none⟩ = some (.slice none 0 0) := (blk_cell BK445.out 1).trans rfl
  have hfs39 := blk_frozen BK445.out 1; have hns39_1 := NB460_445.out; have hms39_1 := NB445_460.out
  have hs40 : w37.cell? ⟨gb445, 2, none⟩ = some (.int .i64 0) := (blk_cell BK445.out 2).trans rfl
  have hfs40 := blk_frozen BK445.out 2; have hns40_1 := NB460_445.out; have hms40_1 := NB445_460.out
  have hs41 : w37.cell? ⟨gb445, 3, none⟩ = some (.slice none 0 0) := (blk_cell BK445.out 3).trans rfl
  have hfs41 := blk_frozen BK445.out 3; have hns41_1 := NB460_445.out; have hms41_1 := NB445_460.out
  refine skip_ (w1 := ?_) (by rfl) rfl ?_ ?_
  rotate_left
  ·go_simp
   rfl
  refine hK.out _ _ ⟨((cell_far (p := ⟨gb445, _, none⟩) NB460_445.out _).trans (((cell_far (p := ⟨gb445, _, none⟩) NB460_445.out _).trans (((cell_far (p := ⟨gb445, _, none⟩) NB460_445.out _).trans (((cell_far (p := ⟨gb445, _, none⟩) NB460_445.out _).trans (hHeld.1)))))))), ((cell_far (p := ⟨gb445, _, none⟩) NB460_445.out _).trans (((cell_far (p := ⟨gb445, _, none⟩) NB460_445.out _).trans (((cell_far (p := ⟨gb445, _, none⟩) NB460_445.out _).trans (((cell_far (p := ⟨gb445, _, none⟩) NB460_445.out _).trans (hHeld.2.1)))))))), ((cell_far (p := ⟨gb445, _, none⟩) NB460_445.out _).trans (((cell_far (p := ⟨gb445, _, none⟩) NB460_445.out _).trans (((cell_far (p := ⟨gb445, _, none⟩) NB460_445.out _).trans (((cell_far (p := ⟨gb445, _, none⟩) NB460_445.out _).trans (hHeld.2.2.1)))))))), ((cell_far (p := ⟨gb445, _, none⟩) NB460_445.out _).trans (((cell_far (p := ⟨gb445, _, none⟩) NB460_445.out _).trans (((cell_far (p := ⟨gb445, _, none⟩) NB460_445.out _).trans (((cell_far (p := ⟨gb445, _, none⟩) NB460_445.out _).trans (hHeld.2.2.2))))))))⟩ (fun hHeld => ?_)
  clear hK K
  refine pB_ 4 (some 3) (uu 5 0) ?_
  refine done_ (by kernel_rfl) ?_
  try go_wp2
  refine bodyPost_ret (results_ct rfl _ _ gb445 31 #[.slice Ao29 t449.length co29, .slice Ao33 t452.length co33, .int .i64 t455, .slice Ao34 t456.length co34] (0, 0) _ rfl (bP_ BK445) Try.underlying31 rfl (by kernel_rfl)) rfl ?_
  exact ⟨_, _, _, eW_, by (with_reducible repeat (first | apply Kd.S_alloc | apply Kd.S_drewN | apply Kd.S_drew)); exact Kd.S_mono (Kd.S_far (p := ⟨gb445, 3, none⟩) (Kd.S_far (p := ⟨gb445, 2, none⟩) (Kd.S_far (p := ⟨gb445, 1, none⟩) (Kd.S_far (p := ⟨gb445, 0, none⟩) (Kd.S_types HO451.out BK445.out (by decide)) (fun _ hk => hk.2) (.slice Ao29 t449.length co29)) (fun _ hk => hk.2) (.slice Ao33 t452.length co33)) (fun _ hk => hk.2) (.int .i64 t455)) (fun _ hk => hk.2) (.slice Ao34 t456.length co34)) (fun _ hk => hk.1), by (with_reducible repeat (first | apply Kd.R_alloc | apply Kd.R_drewN | apply Kd.R_drew)); exact Kd.R_mono (Kd.R_far (p := ⟨gb445, 3, none⟩) (Kd.R_far (p := ⟨gb445, 2, none⟩) (Kd.R_far (p := ⟨gb445, 1, none⟩) (Kd.R_far (p := ⟨gb445, 0, none⟩) (Kd.R_types HO454.out BK445.out (by decide)) (fun _ hk => hk.2) (.slice Ao29 t449.length co29)) (fun _ hk => hk.2) (.slice Ao33 t452.length co33)) (fun _ hk => hk.2) (.int .i64 t455)) (fun _ hk => hk.2) (.slice Ao34 t456.length co34)) (fun _ hk => trivial), by (with_reducible repeat (first | apply Kd.Q_alloc | apply Kd.Q_drewN | apply Kd.Q_drew)); exact Kd.Q_mono (Kd.Q_far (p := ⟨gb445, 3, none⟩) (Kd.Q_far (p := ⟨gb445, 2, none⟩) (Kd.Q_far (p := ⟨gb445, 1, none⟩) (Kd.Q_far (p := ⟨gb445, 0, none⟩) (Kd.Q_types HO458.out BK445.out (by decide)) (fun _ hk => hk.2) (.slice Ao29 t449.length co29)) (fun _ hk => hk.2) (.slice Ao33 t452.length co33)) (fun _ hk => hk.2) (.int .i64 t455)) (fun _ hk => hk.2) (.slice Ao34 t456.length co34)) (fun _ hk => trivial), sABelo_14⟩

/-! ### impl_in: function 52 -/
def impl_in.f (a0 : Int) (a1 : Int) (a2 : Int) : Option (Bool) := if a0 ≥ a1 then (some (decide (a0 ≤ a2))) else (some false)
set_option maxHeartbeats 8000000 in
set_option maxRecDepth 100000 in
theorem impl_in.calls (a0 : Int) (a1 : Int) (a2 : Int) (r : Bool) (w : World) (h : impl_in.f a0 a1 a2 = some r) :
  Calls Try.prog 52 #[.int .i64 a0, .int .i64 a1, .int .i64 a2] w fun e w' => e = .returned (.bool r) ∧ Drawn0 w w' := by
 have H : (if a0 ≥ a1 then (some (decide (a0 ≤ a2))) else (some false)) = some r := h
 clear h
 by_cases c4 : a0 ≥ a1
 ·rw [if_pos c4] at H
  have c4b0 : decide (a1 ≤ a0) = true := decide_eq_true c4
  clear c4
  obtain rfl := Option.some.inj H
  go_enter Try.func52, Try.ntmps52
  go_wp2
  go_ret
  exact ⟨eS_, by repeat (first | exact Drawn0.refl _ | apply Drawn0.step)⟩
 ·rw [if_neg c4] at H
  have c4b0 : decide (a1 ≤ a0) = false := decide_eq_false c4
  clear c4
  obtain rfl := Option.some.inj H
  go_enter Try.func52, Try.ntmps52
  go_wp2
  go_ret
  exact ⟨eS_, by repeat (first | exact Drawn0.refl _ | apply Drawn0.step)⟩

/-! ### impl_each: function 78 -/
def impl_each.l0 : Nat → Int → Int → List Int → Int → Int → Option (Bool)
 | 0, _, _, _, _, _ => none
 | k + 1, x2, x3, x15, x16, x17 => if x17 < x16 then (if 0 ≤ x17 then (if x17 < (x15.length : Int) then ((impl_in.f (rd x15 x17) x2 x3).bind fun t468 => (if t468 = true then (impl_each.l0 k x2 x3 x15 x16 (wrap64 (x17 + 1))) else (some false))) else (none)) else (none)) else (some true)
def impl_each.f (k : Nat) (l0 : List Int) (a1 : Int) (a2 : Int) (a3 : Int) : Option (Bool) := if (l0.length : Int) = a1 then (impl_each.l0 k a2 a3 l0 (l0.length : Int) 0) else (some false)
theorem impl_each.mono_l : ∀ k, (∀ y0 y1 y2 y3 y4, LeO (impl_each.l0 k y0 y1 y2 y3 y4) (impl_each.l0 (k + 1) y0 y1 y2 y3 y4))
 | 0 => fun _ _ _ _ _ r h => by simp [impl_each.l0] at h
 | k + 1 => by
  have ih0 := impl_each.mono_l k
  ·intro y0 y1 y2 y3 y4
   unfold impl_each.l0
   repeat' first
   | (with_reducible exact ih0 _ _ _ _ _)
   | (with_reducible exact LeO.refl _)
   | (with_reducible exact LeO.none _)
   | (with_reducible refine LeO.ite ?_ ?_)
   | (with_reducible refine LeO.bind ?_ (fun _ => ?_))
   | exact ih0 _ _ _ _ _
   | exact LeO.none _
   | refine LeO.ite ?_ ?_
   | refine LeO.bind ?_ (fun _ => ?_)
theorem impl_each.mono : ∀ a0 a1 a2 a3 k, LeO (impl_each.f k a0 a1 a2 a3) (impl_each.f (k + 1) a0 a1 a2 a3) := by
 intro a0 a1 a2 a3 k
 have ih0 := impl_each.mono_l k
 unfold impl_each.f
 repeat' first
   | (with_reducible exact ih0 _ _ _ _ _)
   | (with_reducible exact LeO.refl _)
   | (with_reducible exact LeO.none _)
   | (with_reducible refine LeO.ite ?_ ?_)
   | (with_reducible refine LeO.bind ?_ (fun _ => ?_))
   | exact ih0 _ _ _ _ _
   | exact LeO.none _
   | refine LeO.ite ?_ ?_
   | refine LeO.bind ?_ (fun _ => ?_)
set_option maxHeartbeats 8000000 in
set_option maxRecDepth 100000 in
theorem impl_each.calls (k : Nat) (A0 : Option Addr) (c0 : Nat) (l0 : List Int) (a1 : Int) (a2 : Int) (a3 : Int) (r : Bool) (w : World) (hr0 : Kd.C (Kd.int .i64) w A0 l0.length l0) (hc0 : l0.length ≤ c0) (h : impl_each.f k l0 a1 a2 a3 = some r) :
  Calls Try.prog 78 #[.slice A0 l0.length c0, .int .i64 a1, .int .i64 a2, .int .i64 a3] w fun e w' => e = .returned (.bool r) ∧ Drawn0 w w' := by
 have HR0 := mk_ hr0; have HC0 := mk_ hc0; clear hr0 hc0
 have H : (if (l0.length : Int) = a1 then (impl_each.l0 k a2 a3 l0 (l0.length : Int) 0) else (some false)) = some r := h
 clear h
 by_cases c5 : (l0.length : Int) = a1
 ·rw [if_pos c5] at H
  have c5b0 := beq_iff_eq.mpr c5
  have c5b1 := bne_eq_false_iff_eq.mpr c5
  clear c5; have H' := mk_ H; clear H
  go_enter Try.func78, Try.ntmps78
  go_wp2
  go_loopg [17] k (fun kq v17 w' => ∃ (x17_1 : Int), v17 = .int .i64 x17_1 ∧ Aside0 (impl_each.l0 kq a2 a3 l0 (l0.length : Int) x17_1 = some r) ∧ Aside0 (kq ≤ k) ∧ Drawn0 w w')
  case atStart => exact ⟨(0), eS_, H', ⟨Nat.le_refl _⟩, by repeat (first | exact Drawn0.refl _ | apply Drawn0.step)⟩
  case round =>
   clear H'; (try clear c5); (try clear c5b0); (try clear c5b1)
   obtain ⟨x17_1, rfl, HA, HK1, ⟨m1, rfl⟩⟩ := hrel
   cases gk with
   | zero => exact absurd HA.out (by simp [impl_each.l0])
   | succ k1 =>
    have H := HA.out; clear HA
    simp only [impl_each.l0] at H
    by_cases c6 : x17_1 < (l0.length : Int)
    ·rw [if_pos c6] at H
     have c6b0 := decide_eq_true c6
     clear c6
     obtain ⟨c7, H⟩ := ifS_ H
     have c7b0 : decide (0 ≤ x17_1) = true := decide_eq_true c7
     clear c7
     obtain ⟨c8, H⟩ := ifS_ H
     have c8b0 : decide (x17_1 < (l0.length : Int)) = true := decide_eq_true c8
     clear c8; replace H := Option.bind_eq_some_iff.mp H
     obtain ⟨t468, A90, H⟩ := H
     (try dsimp only at H)
     have A9 := mk_ A90; clear A90
     by_cases c10 : t468 = true
     ·subst c10
      replace H := ifT_ H; have H' := mk_ H; clear H
      have p467 : 0 ≤ (x17_1 : Int) := dA_
      have q467 : x17_1 < (l0.length : Int) := dA_
      obtain ⟨ad467, e467, hx467_0⟩ := Kd.at_int HR0.out x17_1 p467 q467
      cases e467
      replace p467 := eq_true p467; replace q467 := eq_true q467
      go_wp2_with (first | ((with_reducible refine gate_callee (f := 52) rfl ?_); refine gL_ (some 24) Try.func52 #[.int .i64 (rd l0 x17_1), .int .i64 a2, .int .i64 a3] ?_; (with_reducible refine (impl_in.calls (rd l0 x17_1) a2 a3 true _ A9.out).mono ?_); rintro e w' ⟨rfl, ⟨nd, rfl⟩⟩; refine ⟨_, rfl, ?_⟩))
      go_roundg k1
      case measure => have := HK1.out; omega
      case rel => exact ⟨(wrap64 (x17_1 + 1)), eS_, H', ⟨by have := HK1.out; omega⟩, by repeat (first | exact Drawn0.refl _ | apply Drawn0.step)⟩
     ·replace c10 := Bool.eq_false_iff.mpr c10
      subst c10
      replace H := ifF_ H
      obtain rfl := Option.some.inj H
      have p467 : 0 ≤ (x17_1 : Int) := dA_
      have q467 : x17_1 < (l0.length : Int) := dA_
      obtain ⟨ad467, e467, hx467_0⟩ := Kd.at_int HR0.out x17_1 p467 q467
      cases e467
      replace p467 := eq_true p467; replace q467 := eq_true q467
      go_wp2_with (first | ((with_reducible refine gate_callee (f := 52) rfl ?_); refine gL_ (some 24) Try.func52 #[.int .i64 (rd l0 x17_1), .int .i64 a2, .int .i64 a3] ?_; (with_reducible refine (impl_in.calls (rd l0 x17_1) a2 a3 false _ A9.out).mono ?_); rintro e w' ⟨rfl, ⟨nd, rfl⟩⟩; refine ⟨_, rfl, ?_⟩))
      go_ret
      exact ⟨eS_, by repeat (first | exact Drawn0.refl _ | apply Drawn0.step)⟩
    ·rw [if_neg c6] at H
     have c6b0 := decide_eq_false c6
     clear c6
     obtain rfl := Option.some.inj H
     go_wp2
     go_ret
     exact ⟨eS_, by repeat (first | exact Drawn0.refl _ | apply Drawn0.step)⟩
 ·rw [if_neg c5] at H
  have c5b0 := beq_eq_false_iff_ne.mpr c5
  have c5b1 := bne_iff_ne.mpr c5
  obtain rfl := Option.some.inj H
  go_enter Try.func78, Try.ntmps78
  go_wp2
  go_ret
  exact ⟨eS_, by repeat (first | exact Drawn0.refl _ | apply Drawn0.step)⟩

end Go.Proofs.Ytjoghfehmhapbaa.QFnLateOnce
