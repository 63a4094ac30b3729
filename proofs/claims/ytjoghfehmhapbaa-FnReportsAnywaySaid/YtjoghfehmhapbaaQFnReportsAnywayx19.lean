-- Written by a program of this session out of the printer's texts and contracts of its own.
import Derived.Test.YtjoghfehmhapbaaSq
import Derived.Test.YtjoghfehmhapbaaQFnReportsAnywayx0
import Derived.Test.YtjoghfehmhapbaaQFnReportsAnywayx1
import Derived.Test.YtjoghfehmhapbaaQFnReportsAnywayx9
import Derived.Test.YtjoghfehmhapbaaQFnReportsAnywayx18
namespace Go.Proofs.Ytjoghfehmhapbaa.QFnReportsAnyway
open Go.RowKit Go.Proofs.YtjoghfehmhapbaaW.PrintWords Go.Proofs.YtjoghfehmhapbaaW.PrintLast Go.Proofs.YtjoghfehmhapbaaW.PrintMore Go.Proofs.Ytjoghfehmhapbaa.Sq
attribute [local go_sem] max2_int min2_int max_two min_two max_three min_three max_four min_four   -- for this text's walks alone
set_option linter.unusedVariables false
set_option linter.unusedSimpArgs false
theorem sABelo_19 {b : Nat} {w W : World} (h : Below b w W := by repeat (first | (with_reducible first | exact Aside0.out (by assumption) | apply below_alloc | apply pw_below_drewN | apply below_drew1 | refine below_set ?_ (IsS99.ge (Aside0.out (by assumption))) | refine below_set ?_ (Aside0.out (by assumption))) | exact Aside0.out (by assumption))) : Below b w W := h
theorem sAIsS99_19 {w0 W : World} {g : Nat} {f0 : List Int} {f1 : Int} (h : IsS99 w0 W g f0 f1 := by repeat (first | (with_reducible first | exact Aside0.out (by assumption) | apply IsS99.alloc | apply IsS99.drewN | apply IsS99.drew | apply IsS99.set_1 | refine IsS99.far ?_ (Aside0.out (by assumption)) _) | exact Aside0.out (by assumption))) : IsS99 w0 W g f0 f1 := h

attribute [local go_sem high] eqA43
/-! ### spec_DrawReport: function 20 -/
def spec_DrawReport.l0 : Nat → Int → Int → List Int → Int → List (S39) → List Int → Int → List (S43) → Option ((List (S39)) × List Int × Int × (List (S43)) × Int × Bool)
 | 0, _, _, _, _, _, _, _, _ => none
 | k + 1, x7, x8, x515000, x515001, x527000, x527001, x527002, x527003 => if x8 < (x527003.length : Int) then (if 0 ≤ x8 then (if ((rd_T43 x527003 x8).f0) = 1 then ((spec_l1Rd_once.f x515000 x515001 2).bind fun bt534 => (if bt534.1 = true then (spec_DrawReport.l0 k (wrap64 (x8 + 1)) (wrap64 (x8 + 1)) x515000 bt534.2 x527000 x527001 x527002 x527003) else (spec_DrawReport.l0 k x7 (wrap64 (x8 + 1)) x515000 bt534.2 x527000 x527001 x527002 x527003))) else (spec_DrawReport.l0 k x7 (wrap64 (x8 + 1)) x515000 x515001 x527000 x527001 x527002 x527003)) else (none)) else ((spec_l1Rd_once.f x515000 x515001 2).bind fun bt536 => (some (x527000, x527001, x527002, x527003, x7, bt536.1)))
def spec_DrawReport.f (k : Nat) (l0 : List Int) : Option ((List (S39)) × List Int × Int × (List (S43)) × Int × Bool) := (spec_l1Open.f l0).bind fun bt512 => ((spec_l24Draw.f k bt512.1 bt512.2).bind fun bt515 => ((spec_l1Rd_below.f bt512.1 bt515.2.2.2.2 (wrap64 ((bt515.2.2.2.1.length : Int) + 2))).bind fun bt527 => ((spec_l1Rd_once.f bt512.1 bt527.2 4).bind fun bt529 => (if bt529.1 = true then ((spec_l1Rd_once.f bt512.1 bt529.2 2).bind fun bt531 => (some (bt515.1, bt515.2.1, bt515.2.2.1, bt515.2.2.2.1, bt527.1, bt531.1))) else (spec_DrawReport.l0 k bt527.1 0 bt512.1 bt529.2 bt515.1 bt515.2.1 bt515.2.2.1 bt515.2.2.2.1)))))
theorem spec_DrawReport.mono_l : ∀ k, (∀ y0 y1 y2 y3 y4 y5 y6 y7, LeO (spec_DrawReport.l0 k y0 y1 y2 y3 y4 y5 y6 y7) (spec_DrawReport.l0 (k + 1) y0 y1 y2 y3 y4 y5 y6 y7))
 | 0 => fun _ _ _ _ _ _ _ _ r h => by simp [spec_DrawReport.l0] at h
 | k + 1 => by
  have ih0 := spec_DrawReport.mono_l k
  ·intro y0 y1 y2 y3 y4 y5 y6 y7
   unfold spec_DrawReport.l0
   repeat' first
   | (with_reducible exact ih0 _ _ _ _ _ _ _ _)
   | (with_reducible exact spec_l24Draw.mono _ _ _)
   | (with_reducible exact LeO.refl _)
   | (with_reducible exact LeO.none _)
   | (with_reducible refine LeO.ite ?_ ?_)
   | (with_reducible refine LeO.bind ?_ (fun _ => ?_))
   | exact ih0 _ _ _ _ _ _ _ _
   | exact LeO.none _
   | refine LeO.ite ?_ ?_
   | refine LeO.bind ?_ (fun _ => ?_)
theorem spec_DrawReport.mono : ∀ a0 k, LeO (spec_DrawReport.f k a0) (spec_DrawReport.f (k + 1) a0) := by
 intro a0 k
 have ih0 := spec_DrawReport.mono_l k
 unfold spec_DrawReport.f
 repeat' first
   | (with_reducible exact ih0 _ _ _ _ _ _ _ _)
   | (with_reducible exact spec_l24Draw.mono _ _ _)
   | (with_reducible exact LeO.refl _)
   | (with_reducible exact LeO.none _)
   | (with_reducible refine LeO.ite ?_ ?_)
   | (with_reducible refine LeO.bind ?_ (fun _ => ?_))
   | exact ih0 _ _ _ _ _ _ _ _
   | exact LeO.none _
   | refine LeO.ite ?_ ?_
   | refine LeO.bind ?_ (fun _ => ?_)
set_option maxHeartbeats 8000000 in
set_option maxRecDepth 100000 in
theorem spec_DrawReport.calls (k : Nat) (A0 : Option Addr) (c0 : Nat) (l0 : List Int) (r1 : List (S39)) (r2 : List Int) (r3 : Int) (r4 : List (S43)) (r5 : Int) (r6 : Bool) (w : World) (hr0 : Kd.C (Kd.int .u8) w A0 l0.length l0) (hc0 : l0.length ≤ c0) (h : spec_DrawReport.f k l0 = some (r1, r2, r3, r4, r5, r6)) :
  Calls Try.prog 20 #[.slice A0 l0.length c0] w fun e w' => ∃ v0_ v1_ v3_ : Value, e = .returned (.tuple #[.agg #[v0_, v1_, .int .i64 r3, v3_], .int .i64 r5, .bool r6]) ∧ Kd.S k39 39 w' w.heap.size (fun k_ => some k_ ≠ (v1_ : Value).ownBlock) v0_ r1 ∧ Kd.R (Kd.int .i64) 2 w' w.heap.size (fun _ => True) v1_ r2 ∧ Kd.Q k43 43 w' w.heap.size (fun _ => True) v3_ r4 ∧ Below w.heap.size w w' := by
 have hu31 := Try.underlying31; have HR0 := mk_ hr0; have HC0 := mk_ hc0; clear hr0 hc0
 have HB := mk_ (Below.refl w.heap.size w)
 have H : ((spec_l1Open.f l0).bind fun bt512 => ((spec_l24Draw.f k bt512.1 bt512.2).bind fun bt515 => ((spec_l1Rd_below.f bt512.1 bt515.2.2.2.2 (wrap64 ((bt515.2.2.2.1.length : Int) + 2))).bind fun bt527 => ((spec_l1Rd_once.f bt512.1 bt527.2 4).bind fun bt529 => (if bt529.1 = true then ((spec_l1Rd_once.f bt512.1 bt529.2 2).bind fun bt531 => (some (bt515.1, bt515.2.1, bt515.2.2.1, bt515.2.2.2.1, bt527.1, bt531.1))) else (spec_DrawReport.l0 k bt527.1 0 bt512.1 bt529.2 bt515.1 bt515.2.1 bt515.2.2.1 bt515.2.2.2.1)))))) = some (r1, r2, r3, r4, r5, r6) := h
 clear h; replace H := Option.bind_eq_some_iff.mp H
 obtain ⟨⟨t512, t513⟩, A20, H⟩ := H
 (try dsimp only at H)
 have A2 := mk_ A20; clear A20; replace H := Option.bind_eq_some_iff.mp H
 obtain ⟨⟨t515, t518, t521, t522, t525⟩, A30, H⟩ := H
 (try dsimp only at H)
 have A3 := mk_ A30; clear A30; replace H := Option.bind_eq_some_iff.mp H
 obtain ⟨⟨t527, t528⟩, A40, H⟩ := H
 (try dsimp only at H)
 have A4 := mk_ A40; clear A40; replace H := Option.bind_eq_some_iff.mp H
 obtain ⟨⟨t529, t530⟩, A50, H⟩ := H
 (try dsimp only at H)
 have A5 := mk_ A50; clear A50
 by_cases c6 : t529 = true
 ·subst c6
  replace H := ifT_ H; replace H := Option.bind_eq_some_iff.mp H
  obtain ⟨⟨t531, t532⟩, A70, H⟩ := H
  (try dsimp only at H)
  have A7 := mk_ A70; clear A70
  simp only [Option.some.injEq, Prod.mk.injEq] at H
  obtain ⟨rfl, rfl, rfl, rfl, rfl, rfl⟩ := H
  go_enter Try.func20, Try.ntmps20
  try go_wp2_with (first | ((with_reducible refine gate_dst (N := 2) rfl ?_); refine box_event ?hg (N := 2) ?hd (cs := #[.slice none 0 0, .slice none 0 0, .int .i64 0, .slice none 0 0]) (t := 31) ?hr ?_; (case hd => rfl); (case hg => rfl); (case hr => first | (go_simp; done) | (go_simp; rfl)); intro gb511 hg w8 hbox hb; have BK511 := mk_ (hbox); have GW511 := gE_ HB hg; have GE511 := gE_ HB hg; replace HB := bS_ HB hb; clear hb hbox hg) | ((with_reducible refine gate_callee (f := 43) rfl ?_); refine gL_ (some 10) Try.func43 #[.slice A0 l0.length c0] ?_; (with_reducible refine (spec_l1Open.calls _ _ l0 t512 t513 w _ ?side1 ?side2 ?side3 A2.out).mono ?_); (case side1 => exact sABelo_19); (case side2 => exact HR0.out); (case side3 => exact HC0.out); rintro e w9 ⟨g514, rfl, hi, hb, hb2⟩; refine ⟨_, rfl, ?_⟩; replace HB := mk_ (hb); have HI514 := mk_ (hi); have NB514_511 := mk_ (IsS99.ne_blk hi (blk_below (g := gb511) (o := .cells #[.slice none 0 0, .slice none 0 0, .int .i64 0, .slice none 0 0] 31 (0, 0)) (bT_ BK511) hb2) (by decide)); have NB511_514 := mk_ (Ne.symm (IsS99.ne_blk hi (blk_below (g := gb511) (o := .cells #[.slice none 0 0, .slice none 0 0, .int .i64 0, .slice none 0 0] 31 (0, 0)) (bT_ BK511) hb2) (by decide))); replace BK511 := mk_ (blk_below (g := gb511) (o := .cells #[.slice none 0 0, .slice none 0 0, .int .i64 0, .slice none 0 0] 31 (0, 0)) (bT_ BK511) hb2); (try clear hb); (try clear hb2); (try clear hi)) | ((with_reducible refine gate_callee (f := 55) rfl ?_); refine gL_ (some 12) Try.func55 #[.pointer (some ⟨g514, 0, none⟩)] ?_; (with_reducible refine (spec_l24Draw.calls k g514 t512 t513 t515 t518 t521 t522 t525 w _ ?side1 ?side2 A3.out).mono ?_); (case side1 => exact sAIsS99_19); (case side2 => exact sABelo_19); rintro e w10 ⟨v516, v519, v523, rfl, ho0, ho1, ho2, hi, hb, hk⟩; refine ⟨_, rfl, ?_⟩; replace BK511 := kB_ hk (bT_ BK511) NB511_514; have HO517 := mk_ (Kd.S_lower ho0 (below_size sABelo_19)); have HO520 := mk_ (Kd.R_lower ho1 (below_size sABelo_19)); have HO524 := mk_ (Kd.Q_lower ho2 (below_size sABelo_19)); replace HB := mk_ (hb); replace HI514 := mk_ (hi); (try clear hb); (try clear hb2); (try clear hk); (try clear hi); (try clear ho0); (try clear ho1); (try clear ho2)) | ((with_reducible refine gate_dst (N := 6) rfl ?_); refine box_event ?hg (N := 6) ?hd (cs := #[.slice none 0 0, .slice none 0 0, .int .i64 0, .slice none 0 0]) (t := 31) ?hr ?_; (case hd => rfl); (case hg => rfl); (case hr => first | (go_simp; done) | (go_simp; rfl)); intro gb526 hg w11 hbox hb; replace HO517 := sB_ HO517 hb; replace HO520 := rB_ HO520 hb; replace HO524 := qB_ HO524 hb; have BK526 := mk_ (hbox); have GW526 := mk_ ((by rw [hg]; exact (below_size sABelo_19) : w.heap.size ≤ gb526)); have GE526 := mk_ ((by rw [hg]; exact (below_size sABelo_19) : w.heap.size ≤ gb526)); replace HB := mk_ (below_step sABelo_19 hb); have NB511_526 := nL_ BK511 hg; have NB526_511 := nG_ BK511 hg; replace BK511 := bB_ BK511 hb; have NB514_526 := mk_ ((by rw [hg]; exact Nat.ne_of_lt (IsS99.lt (show IsS99 w _ g514 t512 t525 from sAIsS99_19)) : g514 ≠ gb526)); have NB526_514 := mk_ ((by rw [hg]; exact Nat.ne_of_gt (IsS99.lt (show IsS99 w _ g514 t512 t525 from sAIsS99_19)) : gb526 ≠ g514)); replace HI514 := mk_ (IsS99.below sAIsS99_19 hb); clear hb hbox hg; obtain ⟨Ao12, co12, eo12⟩ := Kd.S_slice HO517.out; subst eo12; have hnb13 := NB526_511.out; have hnc13 := NB511_526.out; have hnb14 := NB526_514.out; have hnc14 := NB514_526.out; obtain ⟨hcz15_0, hcz15_1, hcz15_2, hcz15_3, hfz15_0, hfz15_1, hfz15_2, hfz15_3⟩ := cf4_ BK526; obtain ⟨Ao16, co16, eo16⟩ := Kd.R_slice HO520.out; subst eo16; obtain ⟨Ao17, co17, eo17, _⟩ := Kd.Q_slice HO524.out; subst eo17) | ((with_reducible refine gate_callee (f := 56) rfl ?_); refine gL_ (some 18) Try.func56 #[.pointer (some ⟨g514, 0, none⟩), .int .i64 (wrap64 ((t522.length : Int) + 2))] ?_; (with_reducible refine (spec_l1Rd_below.calls g514 t512 t525 (wrap64 ((t522.length : Int) + 2)) t527 t528 w _ ?side1 ?side2 A4.out).mono ?_); (case side1 => exact sAIsS99_19); (case side2 => exact sABelo_19); rintro e w18 ⟨rfl, hi, hb, hk⟩; refine ⟨_, rfl, ?_⟩; replace BK511 := kB_ hk (bF_ BK511 NB511_526) NB511_514; replace HO517 := mk_ (Kd.S_mono (Kd.S_keep (IsS99.apartS (show IsS99 w _ g514 t512 t525 from sAIsS99_19) (sF_ HO517 BK526) (by decide)) hk (fun _ h => h.2)) (fun _ h => h.1)); replace HO520 := mk_ (Kd.R_mono (Kd.R_keep (IsS99.apart (show IsS99 w _ g514 t512 t525 from sAIsS99_19) (rF_ HO520 BK526) (by decide)) hk (fun _ h => h.2)) (fun _ h => h.1)); replace HO524 := mk_ (Kd.Q_mono (Kd.Q_keep (IsS99.apartQ (show IsS99 w _ g514 t512 t525 from sAIsS99_19) (qF_ HO524 BK526) (by decide)) hk (fun _ h => h.2)) (fun _ h => h.1)); replace BK526 := kB_ hk (bP_ BK526) NB526_514; replace HB := mk_ (hb); replace HI514 := mk_ (hi); (try clear hb); (try clear hb2); (try clear hk); (try clear hi)) | ((with_reducible refine gate_callee (f := 57) rfl ?_); refine gL_ (some 20) Try.func57 #[.pointer (some ⟨g514, 0, none⟩), .int .i64 4] ?_; (with_reducible refine (spec_l1Rd_once.calls g514 t512 t528 4 true t530 w _ ?side1 ?side2 A5.out).mono ?_); (case side1 => exact sAIsS99_19); (case side2 => exact sABelo_19); rintro e w19 ⟨rfl, hi, hb, hk⟩; refine ⟨_, rfl, ?_⟩; replace BK511 := kB_ hk (bT_ BK511) NB511_514; replace HO517 := mk_ (Kd.S_mono (Kd.S_keep (IsS99.apartS (show IsS99 w _ g514 t512 t528 from sAIsS99_19) (sT_ HO517) (by decide)) hk (fun _ h => h.2)) (fun _ h => h.1)); replace HO520 := mk_ (Kd.R_mono (Kd.R_keep (IsS99.apart (show IsS99 w _ g514 t512 t528 from sAIsS99_19) (rT_ HO520) (by decide)) hk (fun _ h => h.2)) (fun _ h => h.1)); replace HO524 := mk_ (Kd.Q_mono (Kd.Q_keep (IsS99.apartQ (show IsS99 w _ g514 t512 t528 from sAIsS99_19) (qT_ HO524) (by decide)) hk (fun _ h => h.2)) (fun _ h => h.1)); replace BK526 := kB_ hk (bT_ BK526) NB526_514; replace HB := mk_ (hb); replace HI514 := mk_ (hi); (try clear hb); (try clear hb2); (try clear hk); (try clear hi)))
  replace HO517 := mk_ (Kd.S_drew HO517.out)
  replace HO520 := mk_ (Kd.R_drew HO520.out)
  replace HO524 := mk_ (Kd.Q_drew HO524.out)
  replace BK511 := mk_ (blk_drew BK511.out)
  replace BK526 := mk_ (blk_drew BK526.out)
  replace HI514 := mk_ (IsS99.drew HI514.out)
  replace HB := mk_ (below_drew1 HB.out)
  refine start_ (n := 7) (S := fun w' => w'.cell? ⟨gb526, 0, none⟩ = some (.slice Ao12 t515.length co12) ∧ w'.cell? ⟨gb526, 1, none⟩ = some (.slice Ao16 t518.length co16) ∧ w'.cell? ⟨gb526, 2, none⟩ = some (.int .i64 t521) ∧ w'.cell? ⟨gb526, 3, none⟩ = some (.slice Ao17 t522.length co17)) (ds := []) (uu 0 7) (by kernel_rfl) rfl rfl ⟨(blk_cell BK526.out 0).trans rfl, (blk_cell BK526.out 1).trans rfl, (blk_cell BK526.out 2).trans rfl, (blk_cell BK526.out 3).trans rfl⟩ (fun hHeld => ?_)
  generalize w19.drew = w20 at HO517 HO520 HO524 BK511 BK526 HI514 HB hHeld ⊢
  refine pB_ 1 (some 43) #[false, true, false, false, false, false, false] ?_
  refine pB_ 2 (some 44) #[false, true, true, false, false, false, false] ?_
  refine tB_ 0 (some 42) (uu 3 4) hHeld ?_ (hy := by rintro w' ⟨s0, s1, s2, s3⟩; go_simp; with_reducible rfl)
  refine one_ (i := 3) (N := some 45) (uu 4 3) rfl rfl (by kernel_rfl) (by decide) (fun K hK => ?_)
  refine goes_ Try.func57 (by kernel_rfl) rfl #[.pointer (some ⟨g514, 0, none⟩), .int .i64 2] (by rfl) rfl rfl (by (try simp only [List.map_toArray, List.map_cons, List.map_nil]); first | done | rfl | (simp only [List.length_drop, List.length_take]; rfl)) ?_
  with_reducible refine (spec_l1Rd_once.calls g514 t512 t530 2 t531 t532 w _ ?side1 ?side2 A7.out).mono ?_
  (case side1 => exact sAIsS99_19)
  (case side2 => exact sABelo_19)
  rintro e w21 ⟨rfl, hi, hb, hk⟩
  refine ⟨_, rfl, ?_⟩
  replace BK511 := kB_ hk (bT_ BK511) NB511_514
  replace HO517 := mk_ (Kd.S_mono (Kd.S_keep (IsS99.apartS (show IsS99 w _ g514 t512 t530 from sAIsS99_19) (sT_ HO517) (by decide)) hk (fun _ h => h.2)) (fun _ h => h.1))
  replace HO520 := mk_ (Kd.R_mono (Kd.R_keep (IsS99.apart (show IsS99 w _ g514 t512 t530 from sAIsS99_19) (rT_ HO520) (by decide)) hk (fun _ h => h.2)) (fun _ h => h.1))
  replace HO524 := mk_ (Kd.Q_mono (Kd.Q_keep (IsS99.apartQ (show IsS99 w _ g514 t512 t530 from sAIsS99_19) (qT_ HO524) (by decide)) hk (fun _ h => h.2)) (fun _ h => h.1))
  replace BK526 := kB_ hk (bT_ BK526) NB526_514
  replace HB := mk_ (hb)
  replace HI514 := mk_ (hi)
  (try clear hb); (try clear hb2); (try clear hk); (try clear hi)
  refine hK.out _ _ ⟨(blk_cell BK526.out 0).trans rfl, (blk_cell BK526.out 1).trans rfl, (blk_cell BK526.out 2).trans rfl, (blk_cell BK526.out 3).trans rfl⟩ (fun hHeld => ?_)
  clear hK K
  refine nS_ (some 45) ?_
  refine one_ (i := 4) (N := none) (uu 5 2) rfl rfl (by kernel_rfl) (by decide) (fun K hK => ?_)
  have hs22 : w21.cell? ⟨gb511, 0, none⟩ = some (.slice none 0 0) := (blk_cell BK511.out 0).trans rfl
  have hfs22 := blk_frozen BK511.out 0; have hns22_1 := NB526_511.out; have hms22_1 := NB511_526.out
  have hs23 : w21.cell? ⟨gb511, 1, none⟩ = some (.slice none 0 0) := (blk_cell BK511.out 1).trans rfl
  have hfs23 := blk_frozen BK511.out 1; have hns23_1 := NB526_511.out; have hms23_1 := NB511_526.out
  have hs24 : w21.cell? ⟨gb511, 2, none⟩ = some (.int .i64 0) := (blk_cell BK511.out 2).trans rfl
  have hfs24 := blk_frozen BK511.out 2; have hns24_1 := NB526_511.out; have hms24_1 := NB511_526.out
  have hs25 : w21.cell? ⟨gb511, 3, none⟩ = some (.slice none 0 0) := (blk_cell BK511.out 3).trans rfl
  have hfs25 := blk_frozen BK511.out 3; have hns25_1 := NB526_511.out; have hms25_1 := NB511_526.out
  refine skip_ (w1 := ?_) (by rfl) rfl ?_ ?_
  rotate_left
  ·go_simp
   rfl
  refine hK.out _ _ ⟨((cell_far (p := ⟨gb511, _, none⟩) NB526_511.out _).trans (((cell_far (p := ⟨gb511, _, none⟩) NB526_511.out _).trans (((cell_far (p := ⟨gb511, _, none⟩) NB526_511.out _).trans (((cell_far (p := ⟨gb511, _, none⟩) NB526_511.out _).trans (hHeld.1)))))))), ((cell_far (p := ⟨gb511, _, none⟩) NB526_511.out _).trans (((cell_far (p := ⟨gb511, _, none⟩) NB526_511.out _).trans (((cell_far (p := ⟨gb511, _, none⟩) NB526_511.out _).trans (((cell_far (p := ⟨gb511, _, none⟩) NB526_511.out _).trans (hHeld.2.1)))))))), ((cell_far (p := ⟨gb511, _, none⟩) NB526_511.out _).trans (((cell_far (p := ⟨gb511, _, none⟩) NB526_511.out _).trans (((cell_far (p := ⟨gb511, _, none⟩) NB526_511.out _).trans (((cell_far (p := ⟨gb511, _, none⟩) NB526_511.out _).trans (hHeld.2.2.1)))))))), ((cell_far (p := ⟨gb511, _, none⟩) NB526_511.out _).trans (((cell_far (p := ⟨gb511, _, none⟩) NB526_511.out _).trans (((cell_far (p := ⟨gb511, _, none⟩) NB526_511.out _).trans (((cell_far (p := ⟨gb511, _, none⟩) NB526_511.out _).trans (hHeld.2.2.2))))))))⟩ (fun hHeld => ?_)
  clear hK K
  refine pB_ 5 (some 3) (uu 6 1) ?_
  refine pB_ 6 (some 4) (uu 7 0) ?_
  refine done_ (by kernel_rfl) ?_
  try go_wp2
  refine bodyPost_ret (results_ctt rfl _ _ gb511 31 #[.slice Ao12 t515.length co12, .slice Ao16 t518.length co16, .int .i64 t521, .slice Ao17 t522.length co17] (0, 0) _ rfl (bP_ BK511) Try.underlying31 rfl (by kernel_rfl)) rfl ?_
  exact ⟨_, _, _, eW_, by (with_reducible repeat (first | apply Kd.S_alloc | apply Kd.S_drewN | apply Kd.S_drew)); exact Kd.S_mono (Kd.S_far (p := ⟨gb511, 3, none⟩) (Kd.S_far (p := ⟨gb511, 2, none⟩) (Kd.S_far (p := ⟨gb511, 1, none⟩) (Kd.S_far (p := ⟨gb511, 0, none⟩) (Kd.S_types HO517.out BK511.out (by decide)) (fun _ hk => hk.2) (.slice Ao12 t515.length co12)) (fun _ hk => hk.2) (.slice Ao16 t518.length co16)) (fun _ hk => hk.2) (.int .i64 t521)) (fun _ hk => hk.2) (.slice Ao17 t522.length co17)) (fun _ hk => hk.1), by (with_reducible repeat (first | apply Kd.R_alloc | apply Kd.R_drewN | apply Kd.R_drew)); exact Kd.R_mono (Kd.R_far (p := ⟨gb511, 3, none⟩) (Kd.R_far (p := ⟨gb511, 2, none⟩) (Kd.R_far (p := ⟨gb511, 1, none⟩) (Kd.R_far (p := ⟨gb511, 0, none⟩) (Kd.R_types HO520.out BK511.out (by decide)) (fun _ hk => hk.2) (.slice Ao12 t515.length co12)) (fun _ hk => hk.2) (.slice Ao16 t518.length co16)) (fun _ hk => hk.2) (.int .i64 t521)) (fun _ hk => hk.2) (.slice Ao17 t522.length co17)) (fun _ hk => trivial), by (with_reducible repeat (first | apply Kd.Q_alloc | apply Kd.Q_drewN | apply Kd.Q_drew)); exact Kd.Q_mono (Kd.Q_far (p := ⟨gb511, 3, none⟩) (Kd.Q_far (p := ⟨gb511, 2, none⟩) (Kd.Q_far (p := ⟨gb511, 1, none⟩) (Kd.Q_far (p := ⟨gb511, 0, none⟩) (Kd.Q_types HO524.out BK511.out (by decide)) (fun _ hk => hk.2) (.slice Ao12 t515.length co12)) (fun _ hk => hk.2) (.slice Ao16 t518.length co16)) (fun _ hk => hk.2) (.int .i64 t521)) (fun _ hk => hk.2) (.slice Ao17 t522.length co17)) (fun _ hk => trivial), sABelo_19⟩
 ·replace c6 := Bool.eq_false_iff.mpr c6
  subst c6
  replace H := ifF_ H; have H' := mk_ H; clear H
  go_enter Try.func20, Try.ntmps20
  go_wp2_with (first | ((with_reducible refine gate_dst (N := 2) rfl ?_); refine box_event ?hg (N := 2) ?hd (cs := #[.slice none 0 0, .slice none 0 0, .int .i64 0, .slice none 0 0]) (t := 31) ?hr ?_; (case hd => rfl); (case hg => rfl); (case hr => first | (go_simp; done) | (go_simp; rfl)); intro gb511 hg w26 hbox hb; have BK511 := mk_ (hbox); have GW511 := gE_ HB hg; have GE511 := gE_ HB hg; replace HB := bS_ HB hb; clear hb hbox hg) | ((with_reducible refine gate_callee (f := 43) rfl ?_); refine gL_ (some 10) Try.func43 #[.slice A0 l0.length c0] ?_; (with_reducible refine (spec_l1Open.calls _ _ l0 t512 t513 w _ ?side1 ?side2 ?side3 A2.out).mono ?_); (case side1 => exact sABelo_19); (case side2 => exact HR0.out); (case side3 => exact HC0.out); rintro e w27 ⟨g514, rfl, hi, hb, hb2⟩; refine ⟨_, rfl, ?_⟩; replace HB := mk_ (hb); have HI514 := mk_ (hi); have NB514_511 := mk_ (IsS99.ne_blk hi (blk_below (g := gb511) (o := .cells #[.slice none 0 0, .slice none 0 0, .int .i64 0, .slice none 0 0] 31 (0, 0)) (bT_ BK511) hb2) (by decide)); have NB511_514 := mk_ (Ne.symm (IsS99.ne_blk hi (blk_below (g := gb511) (o := .cells #[.slice none 0 0, .slice none 0 0, .int .i64 0, .slice none 0 0] 31 (0, 0)) (bT_ BK511) hb2) (by decide))); replace BK511 := mk_ (blk_below (g := gb511) (o := .cells #[.slice none 0 0, .slice none 0 0, .int .i64 0, .slice none 0 0] 31 (0, 0)) (bT_ BK511) hb2); (try clear hb); (try clear hb2); (try clear hi)) | ((with_reducible refine gate_callee (f := 55) rfl ?_); refine gL_ (some 12) Try.func55 #[.pointer (some ⟨g514, 0, none⟩)] ?_; (with_reducible refine (spec_l24Draw.calls k g514 t512 t513 t515 t518 t521 t522 t525 w _ ?side1 ?side2 A3.out).mono ?_); (case side1 => exact sAIsS99_19); (case side2 => exact sABelo_19); rintro e w28 ⟨v516, v519, v523, rfl, ho0, ho1, ho2, hi, hb, hk⟩; refine ⟨_, rfl, ?_⟩; replace BK511 := kB_ hk (bT_ BK511) NB511_514; have HO517 := mk_ (Kd.S_lower ho0 (below_size sABelo_19)); have HO520 := mk_ (Kd.R_lower ho1 (below_size sABelo_19)); have HO524 := mk_ (Kd.Q_lower ho2 (below_size sABelo_19)); replace HB := mk_ (hb); replace HI514 := mk_ (hi); (try clear hb); (try clear hb2); (try clear hk); (try clear hi); (try clear ho0); (try clear ho1); (try clear ho2)) | ((with_reducible refine gate_dst (N := 6) rfl ?_); refine box_event ?hg (N := 6) ?hd (cs := #[.slice none 0 0, .slice none 0 0, .int .i64 0, .slice none 0 0]) (t := 31) ?hr ?_; (case hd => rfl); (case hg => rfl); (case hr => first | (go_simp; done) | (go_simp; rfl)); intro gb526 hg w29 hbox hb; replace HO517 := sB_ HO517 hb; replace HO520 := rB_ HO520 hb; replace HO524 := qB_ HO524 hb; have BK526 := mk_ (hbox); have GW526 := mk_ ((by rw [hg]; exact (below_size sABelo_19) : w.heap.size ≤ gb526)); have GE526 := mk_ ((by rw [hg]; exact (below_size sABelo_19) : w.heap.size ≤ gb526)); replace HB := mk_ (below_step sABelo_19 hb); have NB511_526 := nL_ BK511 hg; have NB526_511 := nG_ BK511 hg; replace BK511 := bB_ BK511 hb; have NB514_526 := mk_ ((by rw [hg]; exact Nat.ne_of_lt (IsS99.lt (show IsS99 w _ g514 t512 t525 from sAIsS99_19)) : g514 ≠ gb526)); have NB526_514 := mk_ ((by rw [hg]; exact Nat.ne_of_gt (IsS99.lt (show IsS99 w _ g514 t512 t525 from sAIsS99_19)) : gb526 ≠ g514)); replace HI514 := mk_ (IsS99.below sAIsS99_19 hb); clear hb hbox hg; obtain ⟨Ao30, co30, eo30⟩ := Kd.S_slice HO517.out; subst eo30; have hnb31 := NB526_511.out; have hnc31 := NB511_526.out; have hnb32 := NB526_514.out; have hnc32 := NB514_526.out; obtain ⟨hcz33_0, hcz33_1, hcz33_2, hcz33_3, hfz33_0, hfz33_1, hfz33_2, hfz33_3⟩ := cf4_ BK526; obtain ⟨Ao34, co34, eo34⟩ := Kd.R_slice HO520.out; subst eo34; obtain ⟨Ao35, co35, eo35, _⟩ := Kd.Q_slice HO524.out; subst eo35) | ((with_reducible refine gate_callee (f := 56) rfl ?_); refine gL_ (some 18) Try.func56 #[.pointer (some ⟨g514, 0, none⟩), .int .i64 (wrap64 ((t522.length : Int) + 2))] ?_; (with_reducible refine (spec_l1Rd_below.calls g514 t512 t525 (wrap64 ((t522.length : Int) + 2)) t527 t528 w _ ?side1 ?side2 A4.out).mono ?_); (case side1 => exact sAIsS99_19); (case side2 => exact sABelo_19); rintro e w36 ⟨rfl, hi, hb, hk⟩; refine ⟨_, rfl, ?_⟩; replace BK511 := kB_ hk (bF_ BK511 NB511_526) NB511_514; replace HO517 := mk_ (Kd.S_mono (Kd.S_keep (IsS99.apartS (show IsS99 w _ g514 t512 t525 from sAIsS99_19) (sF_ HO517 BK526) (by decide)) hk (fun _ h => h.2)) (fun _ h => h.1)); replace HO520 := mk_ (Kd.R_mono (Kd.R_keep (IsS99.apart (show IsS99 w _ g514 t512 t525 from sAIsS99_19) (rF_ HO520 BK526) (by decide)) hk (fun _ h => h.2)) (fun _ h => h.1)); replace HO524 := mk_ (Kd.Q_mono (Kd.Q_keep (IsS99.apartQ (show IsS99 w _ g514 t512 t525 from sAIsS99_19) (qF_ HO524 BK526) (by decide)) hk (fun _ h => h.2)) (fun _ h => h.1)); replace BK526 := kB_ hk (bP_ BK526) NB526_514; replace HB := mk_ (hb); replace HI514 := mk_ (hi); (try clear hb); (try clear hb2); (try clear hk); (try clear hi)) | ((with_reducible refine gate_callee (f := 57) rfl ?_); refine gL_ (some 20) Try.func57 #[.pointer (some ⟨g514, 0, none⟩), .int .i64 4] ?_; (with_reducible refine (spec_l1Rd_once.calls g514 t512 t528 4 false t530 w _ ?side1 ?side2 A5.out).mono ?_); (case side1 => exact sAIsS99_19); (case side2 => exact sABelo_19); rintro e w37 ⟨rfl, hi, hb, hk⟩; refine ⟨_, rfl, ?_⟩; replace BK511 := kB_ hk (bT_ BK511) NB511_514; replace HO517 := mk_ (Kd.S_mono (Kd.S_keep (IsS99.apartS (show IsS99 w _ g514 t512 t528 from sAIsS99_19) (sT_ HO517) (by decide)) hk (fun _ h => h.2)) (fun _ h => h.1)); replace HO520 := mk_ (Kd.R_mono (Kd.R_keep (IsS99.apart (show IsS99 w _ g514 t512 t528 from sAIsS99_19) (rT_ HO520) (by decide)) hk (fun _ h => h.2)) (fun _ h => h.1)); replace HO524 := mk_ (Kd.Q_mono (Kd.Q_keep (IsS99.apartQ (show IsS99 w _ g514 t512 t528 from sAIsS99_19) (qT_ HO524) (by decide)) hk (fun _ h => h.2)) (fun _ h => h.1)); replace BK526 := kB_ hk (bT_ BK526) NB526_514; replace HB := mk_ (hb); replace HI514 := mk_ (hi); (try clear hb); (try clear hb2); (try clear hk); (try clear hi)))
  go_loopg [7, 8] k (fun kq v7 v8 w' => ∃ (x7_1 : Int) (x8_1 : Int) (x515001_1 : Int), v7 = .int .i64 x7_1 ∧ v8 = .int .i64 x8_1 ∧ Aside0 (spec_DrawReport.l0 kq x7_1 x8_1 t512 x515001_1 t515 t518 t521 t522 = some (r1, r2, r3, r4, r5, r6)) ∧ Aside0 (kq ≤ k) ∧ Aside0 (Kd.S k39 39 w' w.heap.size (fun k_ => some k_ ≠ ((.slice Ao34 t518.length co34) : Value).ownBlock) (.slice Ao30 t515.length co30) t515) ∧ Aside0 (Kd.R (Kd.int .i64) 2 w' w.heap.size (fun _ => True) (.slice Ao34 t518.length co34) t518) ∧ Aside0 (Kd.Q k43 43 w' w.heap.size (fun _ => True) (.slice Ao35 t522.length co35) t522) ∧ Aside0 (w'.heap[gb511]? = some (.cells #[(.slice none 0 0), (.slice none 0 0), .int .i64 0, (.slice none 0 0)] 31 (0, 0))) ∧ Aside0 (w'.heap[gb526]? = some (.cells #[(.slice Ao30 t515.length co30), (.slice Ao34 t518.length co34), .int .i64 t521, (.slice Ao35 t522.length co35)] 31 (0, 0))) ∧ Aside0 (IsS99 w w' g514 t512 x515001_1) ∧ Aside0 (Below w.heap.size w w'))
  case atStart => exact ⟨(t527), (0), (t530), eS_, eS_, H', ⟨Nat.le_refl _⟩, ⟨sT_ HO517⟩, ⟨rT_ HO520⟩, ⟨qT_ HO524⟩, ⟨bT_ BK511⟩, ⟨bT_ BK526⟩, ⟨sAIsS99_19⟩, ⟨sABelo_19⟩⟩
  case round =>
   clear H'; (try clear c6); (try clear hcz33_0); (try clear hcz33_1); (try clear hcz33_2); (try clear hcz33_3); (try clear hfz33_0); (try clear hfz33_1); (try clear hfz33_2); (try clear hfz33_3)
   obtain ⟨x7_1, x8_1, x515001_1, rfl, rfl, HA, HK1, HO_527000, HO_527001, HO_527003, BK511, BK526, HI514, HB⟩ := hrel
   cases gk with
   | zero => exact absurd HA.out (by simp [spec_DrawReport.l0])
   | succ k1 =>
    have H := HA.out; clear HA
    simp only [spec_DrawReport.l0] at H
    by_cases c38 : x8_1 < (t522.length : Int)
    ·rw [if_pos c38] at H
     have c38b0 := decide_eq_true c38
     clear c38
     obtain ⟨c39, H⟩ := ifS_ H
     have c39b0 : decide (0 ≤ x8_1) = true := decide_eq_true c39
     clear c39
     by_cases c40 : ((rd_T43 t522 x8_1).f0) = 1
     ·rw [if_pos c40] at H
      have c40b0 := beq_iff_eq.mpr c40
      have c40b1 := bne_eq_false_iff_eq.mpr c40
      clear c40; replace H := Option.bind_eq_some_iff.mp H
      obtain ⟨⟨t534, t535⟩, A410, H⟩ := H
      (try dsimp only at H)
      have A41 := mk_ A410; clear A410
      by_cases c42 : t534 = true
      ·subst c42
       replace H := ifT_ H; have H' := mk_ H; clear H; have hnb43 := NB526_511.out; have hnc43 := NB511_526.out; have hnb44 := NB526_514.out; have hnc44 := NB514_526.out
       obtain ⟨hcz45_0, hcz45_1, hcz45_2, hcz45_3, hfz45_0, hfz45_1, hfz45_2, hfz45_3⟩ := cf4_ BK526
       have p533 : 0 ≤ (x8_1 : Int) := dA_
       have q533 : x8_1 < (t522.length : Int) := dA_
       obtain ⟨ad533, e533, hx533_0, hx533_1⟩ := at_T43 (Kd.Q_reads' HO_527003.out).2.2 x8_1 p533 q533
       cases e533
       replace p533 := eq_true p533; replace q533 := eq_true q533
       go_wp2_with (first | (go_at_call 57; (with_reducible refine (spec_l1Rd_once.calls g514 t512 x515001_1 2 true t535 w _ ?side1 ?side2 A41.out).mono ?_); (case side1 => exact sAIsS99_19); (case side2 => exact sABelo_19); rintro e w46 ⟨rfl, hi, hb, hk⟩; replace HO_527000 := mk_ (Kd.S_mono (Kd.S_keep (IsS99.apartS (show IsS99 w _ g514 t512 x515001_1 from sAIsS99_19) (sT_ HO_527000) (by decide)) hk (fun _ h => h.2)) (fun _ h => h.1)); replace HO_527001 := mk_ (Kd.R_mono (Kd.R_keep (IsS99.apart (show IsS99 w _ g514 t512 x515001_1 from sAIsS99_19) (rT_ HO_527001) (by decide)) hk (fun _ h => h.2)) (fun _ h => h.1)); replace HO_527003 := mk_ (Kd.Q_mono (Kd.Q_keep (IsS99.apartQ (show IsS99 w _ g514 t512 x515001_1 from sAIsS99_19) (qT_ HO_527003) (by decide)) hk (fun _ h => h.2)) (fun _ h => h.1)); replace BK511 := kB_ hk (bT_ BK511) NB511_514; replace BK526 := kB_ hk (bT_ BK526) NB526_514; replace HB := mk_ (hb); replace HI514 := mk_ (hi); (try clear hb); (try clear hb2); (try clear hk); (try clear hi)))
       go_roundg k1
       case measure => have := HK1.out; omega
       case rel => exact ⟨(wrap64 (x8_1 + 1)), (wrap64 (x8_1 + 1)), (t535), eS_, eS_, H', ⟨by have := HK1.out; omega⟩, ⟨sT_ HO_527000⟩, ⟨rT_ HO_527001⟩, ⟨qT_ HO_527003⟩, ⟨bT_ BK511⟩, ⟨bT_ BK526⟩, ⟨sAIsS99_19⟩, ⟨sABelo_19⟩⟩
      ·replace c42 := Bool.eq_false_iff.mpr c42
       subst c42
       replace H := ifF_ H; have H' := mk_ H; clear H; have hnb47 := NB526_511.out; have hnc47 := NB511_526.out; have hnb48 := NB526_514.out; have hnc48 := NB514_526.out
       obtain ⟨hcz49_0, hcz49_1, hcz49_2, hcz49_3, hfz49_0, hfz49_1, hfz49_2, hfz49_3⟩ := cf4_ BK526
       have p533 : 0 ≤ (x8_1 : Int) := dA_
       have q533 : x8_1 < (t522.length : Int) := dA_
       obtain ⟨ad533, e533, hx533_0, hx533_1⟩ := at_T43 (Kd.Q_reads' HO_527003.out).2.2 x8_1 p533 q533
       cases e533
       replace p533 := eq_true p533; replace q533 := eq_true q533
       go_wp2_with (first | (go_at_call 57; (with_reducible refine (spec_l1Rd_once.calls g514 t512 x515001_1 2 false t535 w _ ?side1 ?side2 A41.out).mono ?_); (case side1 => exact sAIsS99_19); (case side2 => exact sABelo_19); rintro e w50 ⟨rfl, hi, hb, hk⟩; replace HO_527000 := mk_ (Kd.S_mono (Kd.S_keep (IsS99.apartS (show IsS99 w _ g514 t512 x515001_1 from sAIsS99_19) (sT_ HO_527000) (by decide)) hk (fun _ h => h.2)) (fun _ h => h.1)); replace HO_527001 := mk_ (Kd.R_mono (Kd.R_keep (IsS99.apart (show IsS99 w _ g514 t512 x515001_1 from sAIsS99_19) (rT_ HO_527001) (by decide)) hk (fun _ h => h.2)) (fun _ h => h.1)); replace HO_527003 := mk_ (Kd.Q_mono (Kd.Q_keep (IsS99.apartQ (show IsS99 w _ g514 t512 x515001_1 from sAIsS99_19) (qT_ HO_527003) (by decide)) hk (fun _ h => h.2)) (fun _ h => h.1)); replace BK511 := kB_ hk (bT_ BK511) NB511_514; replace BK526 := kB_ hk (bT_ BK526) NB526_514; replace HB := mk_ (hb); replace HI514 := mk_ (hi); (try clear hb); (try clear hb2); (try clear hk); (try clear hi)))
       go_roundg k1
       case measure => have := HK1.out; omega
       case rel => exact ⟨(x7_1), (wrap64 (x8_1 + 1)), (t535), eS_, eS_, H', ⟨by have := HK1.out; omega⟩, ⟨sT_ HO_527000⟩, ⟨rT_ HO_527001⟩, ⟨qT_ HO_527003⟩, ⟨bT_ BK511⟩, ⟨bT_ BK526⟩, ⟨sAIsS99_19⟩, ⟨sABelo_19⟩⟩
     ·rw [if_neg c40] at H
      have c40b0 := beq_eq_false_iff_ne.mpr c40
      have c40b1 := bne_iff_ne.mpr c40
      have H' := mk_ H; clear H; have hnb51 := NB526_511.out; have hnc51 := NB511_526.out; have hnb52 := NB526_514.out; have hnc52 := NB514_526.out
      obtain ⟨hcz53_0, hcz53_1, hcz53_2, hcz53_3, hfz53_0, hfz53_1, hfz53_2, hfz53_3⟩ := cf4_ BK526
      have p533 : 0 ≤ (x8_1 : Int) := dA_
      have q533 : x8_1 < (t522.length : Int) := dA_
      obtain ⟨ad533, e533, hx533_0, hx533_1⟩ := at_T43 (Kd.Q_reads' HO_527003.out).2.2 x8_1 p533 q533
      cases e533
      replace p533 := eq_true p533; replace q533 := eq_true q533
      go_wp2
      go_roundg k1
      case measure => have := HK1.out; omega
      case rel => exact ⟨(x7_1), (wrap64 (x8_1 + 1)), (x515001_1), eS_, eS_, H', ⟨by have := HK1.out; omega⟩, ⟨sT_ HO_527000⟩, ⟨rT_ HO_527001⟩, ⟨qT_ HO_527003⟩, ⟨bT_ BK511⟩, ⟨bT_ BK526⟩, ⟨sAIsS99_19⟩, ⟨sABelo_19⟩⟩
    ·rw [if_neg c38] at H
     have c38b0 := decide_eq_false c38
     clear c38; replace H := Option.bind_eq_some_iff.mp H
     obtain ⟨⟨t536, t537⟩, A540, H⟩ := H
     (try dsimp only at H)
     have A54 := mk_ A540; clear A540
     simp only [Option.some.injEq, Prod.mk.injEq] at H
     obtain ⟨rfl, rfl, rfl, rfl, rfl, rfl⟩ := H
     have hnb55 := NB526_511.out; have hnc55 := NB511_526.out; have hnb56 := NB526_514.out; have hnc56 := NB514_526.out
     obtain ⟨hcz57_0, hcz57_1, hcz57_2, hcz57_3, hfz57_0, hfz57_1, hfz57_2, hfz57_3⟩ := cf4_ BK526
     try go_wp2
     replace HO_527000 := mk_ (Kd.S_drew HO_527000.out)
     replace HO_527001 := mk_ (Kd.R_drew HO_527001.out)
     replace HO_527003 := mk_ (Kd.Q_drew HO_527003.out)
     replace BK511 := mk_ (blk_drew BK511.out)
     replace BK526 := mk_ (blk_drew BK526.out)
     replace HI514 := mk_ (IsS99.drew HI514.out)
     replace HB := mk_ (below_drew1 HB.out)
     refine start_ (n := 7) (S := fun w' => w'.cell? ⟨gb526, 0, none⟩ = some (.slice Ao30 t515.length co30) ∧ w'.cell? ⟨gb526, 1, none⟩ = some (.slice Ao34 t518.length co34) ∧ w'.cell? ⟨gb526, 2, none⟩ = some (.int .i64 t521) ∧ w'.cell? ⟨gb526, 3, none⟩ = some (.slice Ao35 t522.length co35)) (ds := []) (uu 0 7) (by kernel_rfl) rfl rfl ⟨(blk_cell BK526.out 0).trans rfl, (blk_cell BK526.out 1).trans rfl, (blk_cell BK526.out 2).trans rfl, (blk_cell BK526.out 3).trans rfl⟩ (fun hHeld => ?_)
     generalize wr.drew = w58 at HO_527000 HO_527001 HO_527003 BK511 BK526 HI514 HB hHeld ⊢
     refine pB_ 1 (some 43) #[false, true, false, false, false, false, false] ?_
     refine pB_ 2 (some 44) #[false, true, true, false, false, false, false] ?_
     refine tB_ 0 (some 42) (uu 3 4) hHeld ?_ (hy := by rintro w' ⟨s0, s1, s2, s3⟩; go_simp; with_reducible rfl)
     refine one_ (i := 3) (N := some 45) (uu 4 3) rfl rfl (by kernel_rfl) (by decide) (fun K hK => ?_)
     refine goes_ Try.func57 (by kernel_rfl) rfl #[.pointer (some ⟨g514, 0, none⟩), .int .i64 2] (by rfl) rfl rfl (by (try simp only [List.map_toArray, List.map_cons, List.map_nil]); first | done | rfl | (simp only [List.length_drop, List.length_take]; rfl)) ?_
     with_reducible refine (spec_l1Rd_once.calls g514 t512 x515001_1 2 t536 t537 w _ ?side1 ?side2 A54.out).mono ?_
     (case side1 => exact sAIsS99_19)
     (case side2 => exact sABelo_19)
     rintro e w59 ⟨rfl, hi, hb, hk⟩
     refine ⟨_, rfl, ?_⟩
     replace HO_527000 := mk_ (Kd.S_mono (Kd.S_keep (IsS99.apartS (show IsS99 w _ g514 t512 x515001_1 from sAIsS99_19) (sT_ HO_527000) (by decide)) hk (fun _ h => h.2)) (fun _ h => h.1))
     replace HO_527001 := mk_ (Kd.R_mono (Kd.R_keep (IsS99.apart (show IsS99 w _ g514 t512 x515001_1 from sAIsS99_19) (rT_ HO_527001) (by decide)) hk (fun _ h => h.2)) (fun _ h => h.1))
     replace HO_527003 := mk_ (Kd.Q_mono (Kd.Q_keep (IsS99.apartQ (show IsS99 w _ g514 t512 x515001_1 from sAIsS99_19) (qT_ HO_527003) (by decide)) hk (fun _ h => h.2)) (fun _ h => h.1))
     replace BK511 := kB_ hk (bT_ BK511) NB511_514
     replace BK526 := kB_ hk (bT_ BK526) NB526_514
     replace HB := mk_ (hb)
     replace HI514 := mk_ (hi)
     (try clear hb); (try clear hb2); (try clear hk); (try clear hi)
     refine hK.out _ _ ⟨(blk_cell BK526.out 0).trans rfl, (blk_cell BK526.out 1).trans rfl, (blk_cell BK526.out 2).trans rfl, (blk_cell BK526.out 3).trans rfl⟩ (fun hHeld => ?_)
     clear hK K
     refine nS_ (some 45) ?_
     refine one_ (i := 4) (N := none) (uu 5 2) rfl rfl (by kernel_rfl) (by decide) (fun K hK => ?_)
     have hs60 : w59.cell? ⟨gb511, 0, none⟩ = some (.slice none 0 0) := (blk_cell BK511.out 0).trans rfl
     have hfs60 := blk_frozen BK511.out 0; have hns60_1 := NB526_511.out; have hms60_1 := NB511_526.out
     have hs61 : w59.cell? ⟨gb511, 1, none⟩ = some (.slice none 0 0) := (blk_cell BK511.out 1).trans rfl
     have hfs61 := blk_frozen BK511.out 1; have hns61_1 := NB526_511.out; have hms61_1 := NB511_526.out
     have hs62 : w59.cell? ⟨gb511, 2, none⟩ = some (.int .i64 0) := (blk_cell BK511.out 2).trans rfl
     have hfs62 := blk_frozen BK511.out 2; have hns62_1 := NB526_511.out; have hms62_1 := NB511_526.out
     have hs63 : w59.cell? ⟨gb511, 3, none⟩ = some (.slice none 0 0) := (blk_cell BK511.out 3).trans rfl
     have hfs63 := blk_frozen BK511.out 3; have hns63_1 := NB526_511.out; have hms63_1 := NB511_526.out
     refine skip_ (w1 := ?_) (by rfl) rfl ?_ ?_
     rotate_left
     ·go_simp
      rfl
     refine hK.out _ _ ⟨((cell_far (p := ⟨gb511, _, none⟩) NB526_511.out _).trans (((cell_far (p := ⟨gb511, _, none⟩) NB526_511.out _).trans (((cell_far (p := ⟨gb511, _, none⟩) NB526_511.out _).trans (((cell_far (p := ⟨gb511, _, none⟩) NB526_511.out _).trans (hHeld.1)))))))), ((cell_far (p := ⟨gb511, _, none⟩) NB526_511.out _).trans (((cell_far (p := ⟨gb511, _, none⟩) NB526_511.out _).trans (((cell_far (p := ⟨gb511, _, none⟩) NB526_511.out _).trans (((cell_far (p := ⟨gb511, _, none⟩) NB526_511.out _).trans (hHeld.2.1)))))))), ((cell_far (p := ⟨gb511, _, none⟩) NB526_511.out _).trans (((cell_far (p := ⟨gb511, _, none⟩) NB526_511.out _).trans (((cell_far (p := ⟨gb511, _, none⟩) NB526_511.out _).trans (((cell_far (p := ⟨gb511, _, none⟩) NB526_511.out _).trans (hHeld.2.2.1)))))))), ((cell_far (p := ⟨gb511, _, none⟩) NB526_511.out _).trans (((cell_far (p := ⟨gb511, _, none⟩) NB526_511.out _).trans (((cell_far (p := ⟨gb511, _, none⟩) NB526_511.out _).trans (((cell_far (p := ⟨gb511, _, none⟩) NB526_511.out _).trans (hHeld.2.2.2))))))))⟩ (fun hHeld => ?_)
     clear hK K
     refine pB_ 5 (some 3) (uu 6 1) ?_
     refine pB_ 6 (some 4) (uu 7 0) ?_
     refine done_ (by kernel_rfl) ?_
     try go_wp2
     refine bodyPost_ret (results_ctt rfl _ _ gb511 31 #[.slice Ao30 t515.length co30, .slice Ao34 t518.length co34, .int .i64 t521, .slice Ao35 t522.length co35] (0, 0) _ rfl (bP_ BK511) Try.underlying31 rfl (by kernel_rfl)) rfl ?_
     exact ⟨_, _, _, eW_, by (with_reducible repeat (first | apply Kd.S_alloc | apply Kd.S_drewN | apply Kd.S_drew)); exact Kd.S_mono (Kd.S_far (p := ⟨gb511, 3, none⟩) (Kd.S_far (p := ⟨gb511, 2, none⟩) (Kd.S_far (p := ⟨gb511, 1, none⟩) (Kd.S_far (p := ⟨gb511, 0, none⟩) (Kd.S_types HO_527000.out BK511.out (by decide)) (fun _ hk => hk.2) (.slice Ao30 t515.length co30)) (fun _ hk => hk.2) (.slice Ao34 t518.length co34)) (fun _ hk => hk.2) (.int .i64 t521)) (fun _ hk => hk.2) (.slice Ao35 t522.length co35)) (fun _ hk => hk.1), by (with_reducible repeat (first | apply Kd.R_alloc | apply Kd.R_drewN | apply Kd.R_drew)); exact Kd.R_mono (Kd.R_far (p := ⟨gb511, 3, none⟩) (Kd.R_far (p := ⟨gb511, 2, none⟩) (Kd.R_far (p := ⟨gb511, 1, none⟩) (Kd.R_far (p := ⟨gb511, 0, none⟩) (Kd.R_types HO_527001.out BK511.out (by decide)) (fun _ hk => hk.2) (.slice Ao30 t515.length co30)) (fun _ hk => hk.2) (.slice Ao34 t518.length co34)) (fun _ hk => hk.2) (.int .i64 t521)) (fun _ hk => hk.2) (.slice Ao35 t522.length co35)) (fun _ hk => trivial), by (with_reducible repeat (first | apply Kd.Q_alloc | apply Kd.Q_drewN | apply Kd.Q_drew)); exact Kd.Q_mono (Kd.Q_far (p := ⟨gb511, 3, none⟩) (Kd.Q_far (p := ⟨gb511, 2, none⟩) (Kd.Q_far (p := ⟨gb511, 1, none⟩) (Kd.Q_far (p := ⟨gb511, 0, none⟩) (Kd.Q_types HO_527003.out BK511.out (by decide)) (fun _ hk => hk.2) (.slice Ao30 t515.length co30)) (fun _ hk => hk.2) (.slice Ao34 t518.length co34)) (fun _ hk => hk.2) (.int .i64 t521)) (fun _ hk => hk.2) (.slice Ao35 t522.length co35)) (fun _ hk => trivial), sABelo_19⟩

/-! ### laws_sameJobs: function 22 -/
def laws_sameJobs.l0 : Nat → List (S43) → List (S43) → Int → Option (Bool)
 | 0, _, _, _ => none
 | k + 1, x0, x1, x5 => if x5 < (x0.length : Int) then (if 0 ≤ x5 then (if x5 < (x1.length : Int) then (if (!(((rd_T43 x0 x5).f0) == ((rd_T43 x1 x5).f0)) || (!(((rd_T43 x0 x5).f1) == ((rd_T43 x1 x5).f1)))) = true then (some false) else (laws_sameJobs.l0 k x0 x1 (wrap64 (x5 + 1)))) else (none)) else (none)) else (some true)
def laws_sameJobs.f (k : Nat) (l0 : List (S43)) (l1 : List (S43)) : Option (Bool) := if (l0.length : Int) = (l1.length : Int) then (laws_sameJobs.l0 k l0 l1 0) else (some false)
theorem laws_sameJobs.mono_l : ∀ k, (∀ y0 y1 y2, LeO (laws_sameJobs.l0 k y0 y1 y2) (laws_sameJobs.l0 (k + 1) y0 y1 y2))
 | 0 => fun _ _ _ r h => by simp [laws_sameJobs.l0] at h
 | k + 1 => by
  have ih0 := laws_sameJobs.mono_l k
  ·intro y0 y1 y2
   unfold laws_sameJobs.l0
   repeat' first
   | (with_reducible exact ih0 _ _ _)
   | (with_reducible exact LeO.refl _)
   | (with_reducible exact LeO.none _)
   | (with_reducible refine LeO.ite ?_ ?_)
   | (with_reducible refine LeO.bind ?_ (fun _ => ?_))
   | exact ih0 _ _ _
   | exact LeO.none _
   | refine LeO.ite ?_ ?_
   | refine LeO.bind ?_ (fun _ => ?_)
theorem laws_sameJobs.mono : ∀ a0 a1 k, LeO (laws_sameJobs.f k a0 a1) (laws_sameJobs.f (k + 1) a0 a1) := by
 intro a0 a1 k
 have ih0 := laws_sameJobs.mono_l k
 unfold laws_sameJobs.f
 repeat' first
   | (with_reducible exact ih0 _ _ _)
   | (with_reducible exact LeO.refl _)
   | (with_reducible exact LeO.none _)
   | (with_reducible refine LeO.ite ?_ ?_)
   | (with_reducible refine LeO.bind ?_ (fun _ => ?_))
   | exact ih0 _ _ _
   | exact LeO.none _
   | refine LeO.ite ?_ ?_
   | refine LeO.bind ?_ (fun _ => ?_)
set_option maxHeartbeats 8000000 in
set_option maxRecDepth 100000 in
theorem laws_sameJobs.calls (k : Nat) (A0 : Option Addr) (c0 : Nat) (l0 : List (S43)) (A1 : Option Addr) (c1 : Nat) (l1 : List (S43)) (r : Bool) (w : World) (hr0 : Kd.C k43 w A0 l0.length l0) (hc0 : l0.length ≤ c0) (hr1 : Kd.C k43 w A1 l1.length l1) (hc1 : l1.length ≤ c1) (h : laws_sameJobs.f k l0 l1 = some r) :
  Calls Try.prog 22 #[.slice A0 l0.length c0, .slice A1 l1.length c1] w fun e w' => e = .returned (.bool r) ∧ Drawn0 w w' := by
 have hu43 := Try.underlying43; have HR0 := mk_ hr0; have HC0 := mk_ hc0; clear hr0 hc0; have HR1 := mk_ hr1; have HC1 := mk_ hc1; clear hr1 hc1
 have H : (if (l0.length : Int) = (l1.length : Int) then (laws_sameJobs.l0 k l0 l1 0) else (some false)) = some r := h
 clear h
 by_cases c3 : (l0.length : Int) = (l1.length : Int)
 ·rw [if_pos c3] at H
  have c3b0 := beq_iff_eq.mpr c3
  have c3b1 := bne_eq_false_iff_eq.mpr c3
  have c3b2 : (l0.length == l1.length) = true := by first | simpa using c3 | (simp at c3 ⊢; omega)
  clear c3; have H' := mk_ H; clear H
  go_enter Try.func22, Try.ntmps22
  go_wp2
  repeat (go_quiet (fail); try go_wp2)
  go_loopg [5] k (fun kq v5 w' => ∃ (x5_1 : Int), v5 = .int .i64 x5_1 ∧ Aside0 (laws_sameJobs.l0 kq l0 l1 x5_1 = some r) ∧ Aside0 (kq ≤ k) ∧ Drawn0 w w')
  case atStart => exact ⟨(0), eS_, H', ⟨Nat.le_refl _⟩, by repeat (first | exact Drawn0.refl _ | apply Drawn0.step)⟩
  case round =>
   clear H'; (try clear c1); (try clear c3); (try clear c3b0); (try clear c3b1); (try clear c3b2)
   obtain ⟨x5_1, rfl, HA, HK1, ⟨m1, rfl⟩⟩ := hrel
   cases gk with
   | zero => exact absurd HA.out (by simp [laws_sameJobs.l0])
   | succ k1 =>
    have H := HA.out; clear HA
    simp only [laws_sameJobs.l0] at H
    by_cases c4 : x5_1 < (l0.length : Int)
    ·rw [if_pos c4] at H
     have c4b0 := decide_eq_true c4
     clear c4
     obtain ⟨c5, H⟩ := ifS_ H
     have c5b0 : decide (0 ≤ x5_1) = true := decide_eq_true c5
     clear c5
     obtain ⟨c6, H⟩ := ifS_ H
     have c6b0 : decide (x5_1 < (l1.length : Int)) = true := decide_eq_true c6
     clear c6
     by_cases c7 : (!(((rd_T43 l0 x5_1).f0) == ((rd_T43 l1 x5_1).f0)) || (!(((rd_T43 l0 x5_1).f1) == ((rd_T43 l1 x5_1).f1)))) = true
     ·rw [if_pos c7] at H
      have c7b0 : (!(((rd_T43 l0 x5_1).f0) == ((rd_T43 l1 x5_1).f0)) || (!(((rd_T43 l0 x5_1).f1) == ((rd_T43 l1 x5_1).f1)))) = true := c7
      clear c7
      obtain rfl := Option.some.inj H
      have p538 : 0 ≤ (x5_1 : Int) := dA_
      have q538 : x5_1 < (l0.length : Int) := dA_
      obtain ⟨ad538, e538, hx538_0, hx538_1⟩ := at_T43 HR0.out x5_1 p538 q538
      cases e538
      replace p538 := eq_true p538; replace q538 := eq_true q538
      have p539 : 0 ≤ (x5_1 : Int) := dA_
      have q539 : x5_1 < (l1.length : Int) := dA_
      obtain ⟨ad539, e539, hx539_0, hx539_1⟩ := at_T43 HR1.out x5_1 p539 q539
      cases e539
      replace p539 := eq_true p539; replace q539 := eq_true q539
      go_wp2
      repeat (go_quiet (fail); try go_wp2)
      go_ret
      exact ⟨eS_, by repeat (first | exact Drawn0.refl _ | apply Drawn0.step)⟩
     ·rw [if_neg c7] at H
      have c7b0 : (!(((rd_T43 l0 x5_1).f0) == ((rd_T43 l1 x5_1).f0)) || (!(((rd_T43 l0 x5_1).f1) == ((rd_T43 l1 x5_1).f1)))) = false := by simpa using c7
      clear c7; have H' := mk_ H; clear H
      have p538 : 0 ≤ (x5_1 : Int) := dA_
      have q538 : x5_1 < (l0.length : Int) := dA_
      obtain ⟨ad538, e538, hx538_0, hx538_1⟩ := at_T43 HR0.out x5_1 p538 q538
      cases e538
      replace p538 := eq_true p538; replace q538 := eq_true q538
      have p539 : 0 ≤ (x5_1 : Int) := dA_
      have q539 : x5_1 < (l1.length : Int) := dA_
      obtain ⟨ad539, e539, hx539_0, hx539_1⟩ := at_T43 HR1.out x5_1 p539 q539
      cases e539
      replace p539 := eq_true p539; replace q539 := eq_true q539
      go_wp2
      repeat (go_quiet (fail); try go_wp2)
      go_roundg k1
      case measure => have := HK1.out; omega
      case rel => exact ⟨(wrap64 (x5_1 + 1)), eS_, H', ⟨by have := HK1.out; omega⟩, by repeat (first | exact Drawn0.refl _ | apply Drawn0.step)⟩
    ·rw [if_neg c4] at H
     have c4b0 := decide_eq_false c4
     clear c4
     obtain rfl := Option.some.inj H
     go_wp2
     repeat (go_quiet (fail); try go_wp2)
     go_ret
     exact ⟨eS_, by repeat (first | exact Drawn0.refl _ | apply Drawn0.step)⟩
 ·rw [if_neg c3] at H
  have c3b0 := beq_eq_false_iff_ne.mpr c3
  have c3b1 := bne_iff_ne.mpr c3
  have c3b2 : (l0.length == l1.length) = false := by first | simpa using c3 | (simp at c3 ⊢; omega)
  obtain rfl := Option.some.inj H
  go_enter Try.func22, Try.ntmps22
  go_wp2
  repeat (go_quiet (fail); try go_wp2)
  go_ret
  exact ⟨eS_, by repeat (first | exact Drawn0.refl _ | apply Drawn0.step)⟩

end Go.Proofs.Ytjoghfehmhapbaa.QFnReportsAnyway
