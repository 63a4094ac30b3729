-- Written by a program of this session out of the printer's texts and contracts of its own.
import Derived.Test.YtjoghfehmhapbaaSq
import Derived.Test.YtjoghfehmhapbaaQFnReportsAnywayx0
import Derived.Test.YtjoghfehmhapbaaQFnReportsAnywayx9
import Derived.Test.YtjoghfehmhapbaaQFnReportsAnywayx10
import Derived.Test.YtjoghfehmhapbaaQFnReportsAnywayx12
import Derived.Test.YtjoghfehmhapbaaQFnReportsAnywayx13
import Derived.Test.YtjoghfehmhapbaaQFnReportsAnywayx14
import Derived.Test.YtjoghfehmhapbaaQFnReportsAnywayx15
import Derived.Test.YtjoghfehmhapbaaQFnReportsAnywayx16
namespace Go.Proofs.Ytjoghfehmhapbaa.QFnReportsAnyway
open Go.RowKit Go.Proofs.YtjoghfehmhapbaaW.PrintWords Go.Proofs.YtjoghfehmhapbaaW.PrintLast Go.Proofs.YtjoghfehmhapbaaW.PrintMore Go.Proofs.Ytjoghfehmhapbaa.Sq
attribute [local go_sem] max2_int min2_int max_two min_two max_three min_three max_four min_four   -- for this text's walks alone
set_option linter.unusedVariables false
set_option linter.unusedSimpArgs false
theorem sAKeep_17 {w W : World} {g : Nat} {row : Option Nat} (h : KeepBut w W g row := by repeat (first | (with_reducible first | exact Aside0.out (by assumption) | apply KeepBut.set_ | apply keep_drewN | apply keep_drew | apply keep_alloc | refine keep_far ?_ (Aside0.out (by assumption)) _) | exact Aside0.out (by assumption))) : KeepBut w W g row := h
theorem sABelo_17 {b : Nat} {w W : World} (h : Below b w W := by repeat (first | (with_reducible first | exact Aside0.out (by assumption) | apply below_alloc | apply pw_below_drewN | apply below_drew1 | refine below_set ?_ (IsS99.ge (Aside0.out (by assumption))) | refine below_set ?_ (Aside0.out (by assumption))) | exact Aside0.out (by assumption))) : Below b w W := h
theorem sAIsS99_17 {w0 W : World} {g : Nat} {f0 : List Int} {f1 : Int} (h : IsS99 w0 W g f0 f1 := by repeat (first | (with_reducible first | exact Aside0.out (by assumption) | apply IsS99.alloc | apply IsS99.drewN | apply IsS99.drew | apply IsS99.set_1 | refine IsS99.far ?_ (Aside0.out (by assumption)) _) | exact Aside0.out (by assumption))) : IsS99 w0 W g f0 f1 := h

/-! ### spec_l1Rd_run: function 82 -/
mutual
def spec_l1Rd_run.l0 : Nat → Int → Int → List Int → Int → List (S39) → List Int → Int → List (S43) → Option ((List (S39)) × List Int × Int × (List (S43)) × Int)
 | 0, _, _, _, _, _, _, _, _ => none
 | k + 1, x5, x6, x1000, x1001, x419000, x419001, x419002, x419003 => if x6 < x5 then ((spec_l1Rd_below.f x1000 x1001 6).bind fun bt421 => (if bt421.1 = 0 then (spec_l1Rd_run.j1 k x5 x6 bt421.1 (bt421.1 == 0) x1000 bt421.2 x419000 x419001 x419002 x419003) else (spec_l1Rd_run.j1 k x5 x6 bt421.1 (bt421.1 == 1) x1000 bt421.2 x419000 x419001 x419002 x419003))) else (some (x419000, x419001, x419002, x419003, x1001))
def spec_l1Rd_run.j1 : Nat → Int → Int → Int → Bool → List Int → Int → List (S39) → List Int → Int → List (S43) → Option ((List (S39)) × List Int × Int × (List (S43)) × Int)
 | 0, _, _, _, _, _, _, _, _, _, _ => none
 | k + 1, x5, x6, x21, x26, x1000, x1001, x419000, x419001, x419002, x419003 => if x26 = true then ((spec_StartTasks.f k x419000 x419001 x419002 x419003).bind fun bt423 => (spec_l1Rd_run.l0 k x5 (wrap64 (x6 + 1)) x1000 x1001 bt423.1 bt423.2.1 bt423.2.2.1 bt423.2.2.2.1)) else (if x21 = 2 then (spec_l1Rd_run.j2 k x5 x6 x21 (x21 == 2) x1000 x1001 x419000 x419001 x419002 x419003) else (spec_l1Rd_run.j2 k x5 x6 x21 (x21 == 3) x1000 x1001 x419000 x419001 x419002 x419003))
def spec_l1Rd_run.j2 : Nat → Int → Int → Int → Bool → List Int → Int → List (S39) → List Int → Int → List (S43) → Option ((List (S39)) × List Int × Int × (List (S43)) × Int)
 | 0, _, _, _, _, _, _, _, _, _, _ => none
 | k + 1, x5, x6, x21, x34, x1000, x1001, x419000, x419001, x419002, x419003 => if x34 = true then ((spec_l1Rd_below.f x1000 x1001 (x419003.length : Int)).bind fun bt436 => ((spec_l1Rd_once.f x1000 bt436.2 3).bind fun bt438 => ((spec_Report.f k x419000 x419001 x419002 x419003 (wrap64 (1 + bt436.1)) (!bt438.1)).bind fun bt440 => (spec_l1Rd_run.l0 k x5 (wrap64 (x6 + 1)) x1000 bt438.2 bt440.1 bt440.2.1 bt440.2.2.1 bt440.2.2.2.1)))) else (if x21 = 4 then ((spec_l1Rd_below.f x1000 x1001 20).bind fun bt451 => ((spec_TickRun.f k x419000 x419001 x419002 x419003 bt451.1).bind fun bt453 => (spec_l1Rd_run.l0 k x5 (wrap64 (x6 + 1)) x1000 bt451.2 bt453.1 bt453.2.1 bt453.2.2.1 bt453.2.2.2.1))) else ((spec_l1Rd_once.f x1000 x1001 2).bind fun bt466 => (if bt466.1 = true then ((spec_CrashRun.f k x419000 x419001 x419002 x419003).bind fun bt468 => (spec_l1Rd_run.l0 k x5 (wrap64 (x6 + 1)) x1000 bt466.2 bt468.1 bt468.2.1 bt468.2.2.1 bt468.2.2.2)) else (spec_l1Rd_run.l0 k x5 (wrap64 (x6 + 1)) x1000 bt466.2 x419000 x419001 x419002 x419003))))
end
def spec_l1Rd_run.f (k : Nat) (s0_0 : List Int) (s0_1 : Int) : Option ((List (S39)) × List Int × Int × (List (S43)) × Int) := (spec_l1Rd_suite.f k s0_0 s0_1).bind fun bt400 => ((spec_NewRun.f k bt400.1 bt400.2.1).bind fun bt407 => ((spec_l1Rd_size.f s0_0 bt400.2.2 4 30).bind fun bt419 => (spec_l1Rd_run.l0 k bt419.1 0 s0_0 bt419.2 bt407.1 bt407.2.1 bt407.2.2.1 bt407.2.2.2.1)))
theorem spec_l1Rd_run.mono_l : ∀ k, (∀ y0 y1 y2 y3 y4 y5 y6 y7, LeO (spec_l1Rd_run.l0 k y0 y1 y2 y3 y4 y5 y6 y7) (spec_l1Rd_run.l0 (k + 1) y0 y1 y2 y3 y4 y5 y6 y7)) ∧ (∀ y0 y1 y2 y3 y4 y5 y6 y7 y8 y9, LeO (spec_l1Rd_run.j1 k y0 y1 y2 y3 y4 y5 y6 y7 y8 y9) (spec_l1Rd_run.j1 (k + 1) y0 y1 y2 y3 y4 y5 y6 y7 y8 y9)) ∧ (∀ y0 y1 y2 y3 y4 y5 y6 y7 y8 y9, LeO (spec_l1Rd_run.j2 k y0 y1 y2 y3 y4 y5 y6 y7 y8 y9) (spec_l1Rd_run.j2 (k + 1) y0 y1 y2 y3 y4 y5 y6 y7 y8 y9))
 | 0 => ⟨fun _ _ _ _ _ _ _ _ r h => by simp [spec_l1Rd_run.l0] at h, fun _ _ _ _ _ _ _ _ _ _ r h => by simp [spec_l1Rd_run.j1] at h, fun _ _ _ _ _ _ _ _ _ _ r h => by simp [spec_l1Rd_run.j2] at h⟩
 | k + 1 => by
  obtain ⟨ih0, ih1, ih2⟩ := spec_l1Rd_run.mono_l k
  refine ⟨?_, ?_, ?_⟩
  intro y0 y1 y2 y3 y4 y5 y6 y7; unfold spec_l1Rd_run.l0; rotate_left
  intro y0 y1 y2 y3 y4 y5 y6 y7 y8 y9; unfold spec_l1Rd_run.j1; rotate_left
  intro y0 y1 y2 y3 y4 y5 y6 y7 y8 y9; unfold spec_l1Rd_run.j2; rotate_left
  all_goals repeat' first
  | (with_reducible exact ih0 _ _ _ _ _ _ _ _)
  | (with_reducible exact ih1 _ _ _ _ _ _ _ _ _ _)
  | (with_reducible exact ih2 _ _ _ _ _ _ _ _ _ _)
  | (with_reducible exact spec_CrashRun.mono _ _ _ _ _)
  | (with_reducible exact spec_NewRun.mono _ _ _)
  | (with_reducible exact spec_Report.mono _ _ _ _ _ _ _)
  | (with_reducible exact spec_StartTasks.mono _ _ _ _ _)
  | (with_reducible exact spec_TickRun.mono _ _ _ _ _ _)
  | (with_reducible exact spec_l1Rd_suite.mono _ _ _)
  | (with_reducible exact LeO.refl _)
  | (with_reducible exact LeO.none _)
  | (with_reducible refine LeO.ite ?_ ?_)
  | (with_reducible refine LeO.bind ?_ (fun _ => ?_))
  | exact ih0 _ _ _ _ _ _ _ _
  | exact ih1 _ _ _ _ _ _ _ _ _ _
  | exact ih2 _ _ _ _ _ _ _ _ _ _
  | exact spec_CrashRun.mono _ _ _ _ _
  | exact spec_NewRun.mono _ _ _
  | exact spec_Report.mono _ _ _ _ _ _ _
  | exact spec_StartTasks.mono _ _ _ _ _
  | exact spec_TickRun.mono _ _ _ _ _ _
  | exact spec_l1Rd_suite.mono _ _ _
  | exact LeO.none _
  | refine LeO.ite ?_ ?_
  | refine LeO.bind ?_ (fun _ => ?_)
theorem spec_l1Rd_run.mono : ∀ a0 a1 k, LeO (spec_l1Rd_run.f k a0 a1) (spec_l1Rd_run.f (k + 1) a0 a1) := by
 intro a0 a1 k
 obtain ⟨ih0, ih1, ih2⟩ := spec_l1Rd_run.mono_l k
 unfold spec_l1Rd_run.f
 repeat' first
   | (with_reducible exact ih0 _ _ _ _ _ _ _ _)
   | (with_reducible exact ih1 _ _ _ _ _ _ _ _ _ _)
   | (with_reducible exact ih2 _ _ _ _ _ _ _ _ _ _)
   | (with_reducible exact spec_CrashRun.mono _ _ _ _ _)
   | (with_reducible exact spec_NewRun.mono _ _ _)
   | (with_reducible exact spec_Report.mono _ _ _ _ _ _ _)
   | (with_reducible exact spec_StartTasks.mono _ _ _ _ _)
   | (with_reducible exact spec_TickRun.mono _ _ _ _ _ _)
   | (with_reducible exact spec_l1Rd_suite.mono _ _ _)
   | (with_reducible exact LeO.refl _)
   | (with_reducible exact LeO.none _)
   | (with_reducible refine LeO.ite ?_ ?_)
   | (with_reducible refine LeO.bind ?_ (fun _ => ?_))
   | exact ih0 _ _ _ _ _ _ _ _
   | exact ih1 _ _ _ _ _ _ _ _ _ _
   | exact ih2 _ _ _ _ _ _ _ _ _ _
   | exact LeO.none _
   | refine LeO.ite ?_ ?_
   | refine LeO.bind ?_ (fun _ => ?_)
def spec_l1Rd_run.T14 : Bool × List (List Nat × List Nat) := (true, [([], []), ([], []), ([], []), ([2], [2]), ([3], [3]), ([1, 4], [1, 4]), ([5], [5]), ([], []), ([7, 5], [7]), ([8], [8]), ([0, 6, 9, 8], [0, 6, 9]), ([10], [10]), ([11], [11]), ([11], [11]), ([12, 10, 0, 1, 2, 3, 4, 5, 6, 7, 8, 9, 10, 11, 12], [12])])
def spec_l1Rd_run.B14 : List Nat := [0, 0, 0, 4, 12, 30, 62, 0, 190, 446, 1023, 2047, 4095, 4095, 8191]
theorem spec_l1Rd_run.tab14 : rtab .any (opsOf Try.f82 14) = spec_l1Rd_run.T14 := by kernel_rfl
theorem spec_l1Rd_run.bits14 : waitsOk spec_l1Rd_run.T14.2 spec_l1Rd_run.B14 = true := by kernel_rfl
def spec_l1Rd_run.T16 : Bool × List (List Nat × List Nat) := (true, [([], []), ([], []), ([1], [1]), ([0, 2, 2], [0, 2]), ([3], [3]), ([4], [4]), ([4], [4]), ([5, 3, 0, 1, 2, 3, 4, 5], [5])])
def spec_l1Rd_run.B16 : List Nat := [0, 0, 2, 7, 15, 31, 31, 63]
theorem spec_l1Rd_run.tab16 : rtab .any (opsOf Try.f82 16) = spec_l1Rd_run.T16 := by kernel_rfl
theorem spec_l1Rd_run.bits16 : waitsOk spec_l1Rd_run.T16.2 spec_l1Rd_run.B16 = true := by kernel_rfl
set_option maxHeartbeats 8000000 in
set_option maxRecDepth 100000 in
theorem spec_l1Rd_run.calls (k : Nat) (g : Nat) (s0_0 : List Int) (s0_1 : Int) (r1 : List (S39)) (r2 : List Int) (r3 : Int) (r4 : List (S43)) (r5 : Int) (w0 w : World) (hI : IsS99 w0 w g s0_0 s0_1) (hB : Below w0.heap.size w0 w) (h : spec_l1Rd_run.f k s0_0 s0_1 = some (r1, r2, r3, r4, r5)) :
  Calls Try.prog 82 #[.pointer (some ⟨g, 0, none⟩)] w fun e w' => ∃ v0_ v1_ v3_ : Value, e = .returned (.agg #[v0_, v1_, .int .i64 r3, v3_]) ∧ Kd.S k39 39 w' w.heap.size (fun k_ => some k_ ≠ (v1_ : Value).ownBlock) v0_ r1 ∧ Kd.R (Kd.int .i64) 2 w' w.heap.size (fun _ => True) v1_ r2 ∧ Kd.R k43 43 w' w.heap.size (fun _ => True) v3_ r4 ∧ IsS99 w0 w' g s0_0 r5 ∧ Below w0.heap.size w0 w' ∧ KeepBut w w' g none := by
 have hu31 := Try.underlying31; have HI0 := mk_ hI
 have HK := mk_ (KeepBut.refl w g none)
 have HL := mk_ hB.size; clear hI; have HW0 := mk_ hB.size; have HB := mk_ hB; clear hB
 have H : ((spec_l1Rd_suite.f k s0_0 s0_1).bind fun bt400 => ((spec_NewRun.f k bt400.1 bt400.2.1).bind fun bt407 => ((spec_l1Rd_size.f s0_0 bt400.2.2 4 30).bind fun bt419 => (spec_l1Rd_run.l0 k bt419.1 0 s0_0 bt419.2 bt407.1 bt407.2.1 bt407.2.2.1 bt407.2.2.2.1)))) = some (r1, r2, r3, r4, r5) := h
 clear h; replace H := Option.bind_eq_some_iff.mp H
 obtain ⟨⟨t400, t403, t406⟩, A20, H⟩ := H
 (try dsimp only at H)
 have A2 := mk_ A20; clear A20; replace H := Option.bind_eq_some_iff.mp H
 obtain ⟨⟨t407, t410, t413, t414, t417⟩, A30, H⟩ := H
 (try dsimp only at H)
 have A3 := mk_ A30; clear A30; replace H := Option.bind_eq_some_iff.mp H
 obtain ⟨⟨t419, t420⟩, A40, H⟩ := H
 (try dsimp only at H)
 have A4 := mk_ A40; clear A40; have H' := mk_ H; clear H
 go_enter Try.func82, Try.ntmps82
 go_wp2_with (first | ((with_reducible refine gate_dst (N := 2) rfl ?_); refine box_event ?hg (N := 2) ?hd (cs := #[.slice none 0 0, .slice none 0 0, .int .i64 0, .slice none 0 0]) (t := 31) ?hr ?_; (case hd => rfl); (case hg => rfl); (case hr => first | (go_simp; done) | (go_simp; rfl)); intro gb399 hg w5 hbox hb; replace HB := mk_ (below_step sABelo_17 hb); have BK399 := mk_ (hbox); have GW399 := mk_ ((by rw [hg]; exact (keep_size (w := w) (g := g) (row := none) sAKeep_17) : w.heap.size ≤ gb399)); have GE399 := mk_ ((Nat.le_trans HW0.out (by rw [hg]; exact (keep_size (w := w) (g := g) (row := none) sAKeep_17) : w.heap.size ≤ gb399) : w0.heap.size ≤ gb399)); replace HK := mk_ (KeepBut.trans (w := w) (row := none) sAKeep_17 (KeepBut.of_below hb g none) (.inl rfl)); have NB0_399 := mk_ ((by rw [hg]; exact Nat.ne_of_lt (IsS99.lt (show IsS99 w0 _ g s0_0 s0_1 from sAIsS99_17)) : g ≠ gb399)); have NB399_0 := mk_ ((by rw [hg]; exact Nat.ne_of_gt (IsS99.lt (show IsS99 w0 _ g s0_0 s0_1 from sAIsS99_17)) : gb399 ≠ g)); replace HI0 := mk_ (IsS99.below sAIsS99_17 hb); clear hb hbox hg) | ((with_reducible refine gate_callee (f := 76) rfl ?_); refine gL_ (some 9) Try.func76 #[.pointer (some ⟨g, 0, none⟩)] ?_; (with_reducible refine (spec_l1Rd_suite.calls k g s0_0 s0_1 t400 t403 t406 w0 _ ?side1 ?side2 A2.out).mono ?_); (case side1 => exact sAIsS99_17); (case side2 => exact sABelo_17); rintro e w6 ⟨v401, v404, rfl, ho0, ho1, hi, hb, hk⟩; refine ⟨_, rfl, ?_⟩; replace BK399 := kB_ hk (bT_ BK399) NB399_0; have HO402 := mk_ (Kd.S_lower ho0 (keep_size (w := w) (g := g) (row := none) sAKeep_17)); have HO405 := mk_ (Kd.R_lower ho1 (keep_size (w := w) (g := g) (row := none) sAKeep_17)); replace HK := mk_ (KeepBut.trans (w := w) (row := none) sAKeep_17 hk (.inl rfl)); replace HB := mk_ (hb); replace HI0 := mk_ (hi); (try clear hb); (try clear hk); (try clear hi); (try clear ho0); (try clear ho1); obtain ⟨Ao7, co7, eo7⟩ := Kd.S_slice HO402.out; subst eo7; obtain ⟨Ao8, co8, eo8⟩ := Kd.R_slice HO405.out; subst eo8) | ((with_reducible refine gate_callee (f := 14) rfl ?_); refine gL_ (some 10) Try.func14 #[.agg #[.slice Ao7 t400.length co7, .slice Ao8 t403.length co8]] ?_; (with_reducible refine (spec_NewRun.calls k _ _ t400 _ _ t403 t407 t410 t413 t414 t417 _ ?side1 ?side2 ?side3 ?side4 A3.out).mono ?_); (case side1 => exact sD_ HO402); (case side2 => exact (Kd.S_reads' HO402.out).2.1); (case side3 => exact rD_ HO405); (case side4 => exact (Kd.R_reads' HO405.out).2.1); rintro e w9 ⟨v408, v411, v415, rfl, ho0, ho1, ho2, hb⟩; refine ⟨_, rfl, ?_⟩; have HO409 := mk_ (Kd.S_lower (Kd.S_new' (Kd.S_new' ho0 (sLt_ HO402)) (rLt_ HO405)) (keep_size (w := w) (g := g) (row := none) sAKeep_17)); replace HO402 := mk_ (Kd.S_mono (Kd.S_told (Kd.S_told (Kd.S_old (sT_ HO402) hb) (Kd.S_base ho0)) (Kd.R_base ho1)) (fun _ h_ => h_.1)); have HO412 := mk_ (Kd.R_lower (rN_ ho1 HO405) (keep_size (w := w) (g := g) (row := none) sAKeep_17)); replace HO405 := rE_ HO405 ho1 hb; have HO416 := mk_ (Kd.R_lower ho2 (keep_size (w := w) (g := g) (row := none) sAKeep_17)); replace BK399 := bB_ BK399 hb; replace HK := mk_ (KeepBut.trans (w := w) (row := none) sAKeep_17 (KeepBut.of_below hb g none) (.inl rfl)); replace HB := mk_ (below_step sABelo_17 hb); replace HI0 := mk_ (IsS99.below sAIsS99_17 hb); (try clear hb); (try clear hk); (try clear hi); (try clear ho0); (try clear ho1); (try clear ho2)) | ((with_reducible refine gate_dst (N := 3) rfl ?_); refine box_event ?hg (N := 3) ?hd (cs := #[.slice none 0 0, .slice none 0 0, .int .i64 0, .slice none 0 0]) (t := 31) ?hr ?_; (case hd => rfl); (case hg => rfl); (case hr => first | (go_simp; done) | (go_simp; rfl)); intro gb418 hg w10 hbox hb; replace HO402 := sB_ HO402 hb; replace HO405 := rB_ HO405 hb; replace HO409 := sB_ HO409 hb; replace HO412 := rB_ HO412 hb; replace HO416 := rB_ HO416 hb; replace HB := mk_ (below_step sABelo_17 hb); have BK418 := mk_ (hbox); have GW418 := mk_ ((by rw [hg]; exact (keep_size (w := w) (g := g) (row := none) sAKeep_17) : w.heap.size ≤ gb418)); have GE418 := mk_ ((Nat.le_trans HW0.out (by rw [hg]; exact (keep_size (w := w) (g := g) (row := none) sAKeep_17) : w.heap.size ≤ gb418) : w0.heap.size ≤ gb418)); replace HK := mk_ (KeepBut.trans (w := w) (row := none) sAKeep_17 (KeepBut.of_below hb g none) (.inl rfl)); have NB399_418 := nL_ BK399 hg; have NB418_399 := nG_ BK399 hg; replace BK399 := bB_ BK399 hb; have NB0_418 := mk_ ((by rw [hg]; exact Nat.ne_of_lt (IsS99.lt (show IsS99 w0 _ g s0_0 t406 from sAIsS99_17)) : g ≠ gb418)); have NB418_0 := mk_ ((by rw [hg]; exact Nat.ne_of_gt (IsS99.lt (show IsS99 w0 _ g s0_0 t406 from sAIsS99_17)) : gb418 ≠ g)); replace HI0 := mk_ (IsS99.below sAIsS99_17 hb); clear hb hbox hg; obtain ⟨Ao11, co11, eo11⟩ := Kd.S_slice HO409.out; subst eo11; have hnb12 := NB418_399.out; have hnc12 := NB399_418.out; have hnb13 := NB418_0.out; have hnc13 := NB0_418.out; obtain ⟨hcz14_0, hcz14_1, hcz14_2, hcz14_3, hfz14_0, hfz14_1, hfz14_2, hfz14_3⟩ := cf4_ BK418; obtain ⟨Ao15, co15, eo15⟩ := Kd.R_slice HO412.out; subst eo15; obtain ⟨Ao16, co16, eo16⟩ := Kd.R_slice HO416.out; subst eo16) | ((with_reducible refine gate_callee (f := 91) rfl ?_); refine gL_ (some 14) Try.func91 #[.pointer (some ⟨g, 0, none⟩), .int .i64 4, .int .i64 30] ?_; (with_reducible refine (spec_l1Rd_size.calls g s0_0 t406 4 30 t419 t420 w0 _ ?side1 ?side2 A4.out).mono ?_); (case side1 => exact sAIsS99_17); (case side2 => exact sABelo_17); rintro e w17 ⟨rfl, hi, hb, hk⟩; refine ⟨_, rfl, ?_⟩; replace BK399 := kB_ hk (bF_ BK399 NB399_418) NB399_0; replace HO402 := mk_ (Kd.S_mono (Kd.S_keep (IsS99.apartS (show IsS99 w0 _ g s0_0 t406 from sAIsS99_17) (sF_ HO402 BK418) (by decide)) hk (fun _ h => h.2)) (fun _ h => h.1)); replace HO405 := mk_ (Kd.R_mono (Kd.R_keep (IsS99.apart (show IsS99 w0 _ g s0_0 t406 from sAIsS99_17) (rF_ HO405 BK418) (by decide)) hk (fun _ h => h.2)) (fun _ h => h.1)); replace HO409 := mk_ (Kd.S_mono (Kd.S_keep (IsS99.apartS (show IsS99 w0 _ g s0_0 t406 from sAIsS99_17) (sF_ HO409 BK418) (by decide)) hk (fun _ h => h.2)) (fun _ h => h.1)); replace HO412 := mk_ (Kd.R_mono (Kd.R_keep (IsS99.apart (show IsS99 w0 _ g s0_0 t406 from sAIsS99_17) (rF_ HO412 BK418) (by decide)) hk (fun _ h => h.2)) (fun _ h => h.1)); replace HO416 := mk_ (Kd.R_mono (Kd.R_keep (IsS99.apart (show IsS99 w0 _ g s0_0 t406 from sAIsS99_17) (rF_ HO416 BK418) (by decide)) hk (fun _ h => h.2)) (fun _ h => h.1)); replace BK418 := kB_ hk (bP_ BK418) NB418_0; replace HK := mk_ (KeepBut.trans (w := w) (row := none) sAKeep_17 hk (.inl rfl)); replace HB := mk_ (hb); replace HI0 := mk_ (hi); (try clear hb); (try clear hk); (try clear hi)))
 go_loopg [6] k (fun kq v6 w' => ∃ (x6_1 : Int) (x1001_1 : Int) (x419000_1 : List (S39)) (x419001_1 : List Int) (x419002_1 : Int) (x419003_1 : List (S43)) (u419000 : Value) (u419001 : Value) (u419003 : Value), v6 = .int .i64 x6_1 ∧ Aside0 (spec_l1Rd_run.l0 kq t419 x6_1 s0_0 x1001_1 x419000_1 x419001_1 x419002_1 x419003_1 = some (r1, r2, r3, r4, r5)) ∧ Aside0 (kq ≤ k) ∧ Aside0 (Kd.S k39 39 w' w.heap.size (fun k_ => some k_ ≠ (u419001 : Value).ownBlock) u419000 x419000_1) ∧ Aside0 (Kd.R (Kd.int .i64) 2 w' w.heap.size (fun _ => True) u419001 x419001_1) ∧ Aside0 (Kd.R k43 43 w' w.heap.size (fun _ => True) u419003 x419003_1) ∧ Aside0 (w'.heap[gb399]? = some (.cells #[(.slice none 0 0), (.slice none 0 0), .int .i64 0, (.slice none 0 0)] 31 (0, 0))) ∧ Aside0 (w'.heap[gb418]? = some (.cells #[u419000, u419001, .int .i64 x419002_1, u419003] 31 (0, 0))) ∧ Aside0 (IsS99 w0 w' g s0_0 x1001_1) ∧ Aside0 (KeepBut w w' g none) ∧ Aside0 (Below w0.heap.size w0 w'))
 case atStart => exact ⟨(0), (t420), (t407), (t410), (t413), (t414), (.slice Ao11 t407.length co11), (.slice Ao15 t410.length co15), (.slice Ao16 t414.length co16), eS_, H', ⟨Nat.le_refl _⟩, ⟨sM2_ HO409⟩, ⟨rM2_ HO412⟩, ⟨rT_ HO416⟩, ⟨bT_ BK399⟩, ⟨bT_ BK418⟩, ⟨sAIsS99_17⟩, ⟨sAKeep_17⟩, ⟨sABelo_17⟩⟩
 case round =>
  clear H'; (try clear hcz14_0); (try clear hcz14_1); (try clear hcz14_2); (try clear hcz14_3); (try clear hfz14_0); (try clear hfz14_1); (try clear hfz14_2); (try clear hfz14_3)
  obtain ⟨x6_1, x1001_1, x419000_1, x419001_1, x419002_1, x419003_1, u419000, u419001, u419003, rfl, HA, HK1, HO_419000, HO_419001, HO_419003, BK399, BK418, HI0, HK, HB⟩ := hrel
  cases gk with
  | zero => exact absurd HA.out (by simp [spec_l1Rd_run.l0])
  | succ k1 =>
   have H := HA.out; clear HA
   simp only [spec_l1Rd_run.l0] at H
   by_cases c18 : x6_1 < t419
   ·rw [if_pos c18] at H
    have c18b0 := decide_eq_true c18
    clear c18; replace H := Option.bind_eq_some_iff.mp H
    obtain ⟨⟨t421, t422⟩, A190, H⟩ := H
    (try dsimp only at H)
    have A19 := mk_ A190; clear A190; have HC20 := mk_ H; clear H
    go_upto_if 26 with (first | ((with_reducible refine gate_callee (f := 56) rfl ?_); refine gL_ (some 21) Try.func56 #[.pointer (some ⟨g, 0, none⟩), .int .i64 6] ?_; (with_reducible refine (spec_l1Rd_below.calls g s0_0 x1001_1 6 t421 t422 w0 _ ?side1 ?side2 A19.out).mono ?_); (case side1 => exact sAIsS99_17); (case side2 => exact sABelo_17); rintro e w21 ⟨rfl, hi, hb, hk⟩; refine ⟨_, rfl, ?_⟩; replace HO_419000 := mk_ (Kd.S_mono (Kd.S_keep (IsS99.apartS (show IsS99 w0 _ g s0_0 x1001_1 from sAIsS99_17) (sT_ HO_419000) (by decide)) hk (fun _ h => h.2)) (fun _ h => h.1)); replace HO_419001 := mk_ (Kd.R_mono (Kd.R_keep (IsS99.apart (show IsS99 w0 _ g s0_0 x1001_1 from sAIsS99_17) (rT_ HO_419001) (by decide)) hk (fun _ h => h.2)) (fun _ h => h.1)); replace HO_419003 := mk_ (Kd.R_mono (Kd.R_keep (IsS99.apart (show IsS99 w0 _ g s0_0 x1001_1 from sAIsS99_17) (rT_ HO_419003) (by decide)) hk (fun _ h => h.2)) (fun _ h => h.1)); replace BK399 := kB_ hk (bT_ BK399) NB399_0; replace BK418 := kB_ hk (bT_ BK418) NB418_0; replace HK := mk_ (KeepBut.trans (w := w) (row := none) sAKeep_17 hk (.inl rfl)); replace HB := mk_ (hb); replace HI0 := mk_ (hi); (try clear hb); (try clear hk); (try clear hi)))
    (try simp only [Act.put, List.setIfInBounds_toArray, List.set_cons_zero, List.set_cons_succ])
    go_cut [26] (fun v26 wc => ∃ (kq : Nat) (x26_19 : Bool), v26 = .bool x26_19 ∧ Aside0 (spec_l1Rd_run.j1 kq t419 x6_1 t421 x26_19 s0_0 t422 x419000_1 x419001_1 x419002_1 x419003_1 = some (r1, r2, r3, r4, r5)) ∧ Aside0 (kq ≤ k1) ∧ Aside0 (Kd.S k39 39 wc w.heap.size (fun k_ => some k_ ≠ (u419001 : Value).ownBlock) u419000 x419000_1) ∧ Aside0 (Kd.R (Kd.int .i64) 2 wc w.heap.size (fun _ => True) u419001 x419001_1) ∧ Aside0 (Kd.R k43 43 wc w.heap.size (fun _ => True) u419003 x419003_1) ∧ Aside0 (wc.heap[gb399]? = some (.cells #[(.slice none 0 0), (.slice none 0 0), .int .i64 0, (.slice none 0 0)] 31 (0, 0))) ∧ Aside0 (wc.heap[gb418]? = some (.cells #[u419000, u419001, .int .i64 x419002_1, u419003] 31 (0, 0))) ∧ Aside0 (IsS99 w0 wc g s0_0 t422) ∧ Aside0 (KeepBut w wc g none) ∧ Aside0 (Below w0.heap.size w0 wc))
    case first =>
     have H := HC20.out; clear HC20
     by_cases c22 : t421 = 0
     ·rw [if_pos c22] at H
      have c22b0 := beq_iff_eq.mpr c22
      have c22b1 := bne_eq_false_iff_eq.mpr c22
      clear c22
      (first | rw [c22b0] | (simp only [i64_w, i32_w]; rw [c22b0]) | skip)
      have H' := mk_ H; clear H
      go_wp2
      go_meet
      case rel => exact ⟨_, ((t421 == 0)), eS_, H', ⟨by have := HK1.out; first | omega | exact Nat.le_refl _⟩, ⟨sT_ HO_419000⟩, ⟨rT_ HO_419001⟩, ⟨rT_ HO_419003⟩, ⟨bT_ BK399⟩, ⟨bT_ BK418⟩, ⟨sAIsS99_17⟩, ⟨sAKeep_17⟩, ⟨sABelo_17⟩⟩
     ·rw [if_neg c22] at H
      have c22b0 := beq_eq_false_iff_ne.mpr c22
      have c22b1 := bne_iff_ne.mpr c22
      (first | rw [c22b0] | (simp only [i64_w, i32_w]; rw [c22b0]) | skip)
      have H' := mk_ H; clear H
      go_wp2
      go_meet
      case rel => exact ⟨_, ((t421 == 1)), eS_, H', ⟨by have := HK1.out; first | omega | exact Nat.le_refl _⟩, ⟨sT_ HO_419000⟩, ⟨rT_ HO_419001⟩, ⟨rT_ HO_419003⟩, ⟨bT_ BK399⟩, ⟨bT_ BK418⟩, ⟨sAIsS99_17⟩, ⟨sAKeep_17⟩, ⟨sABelo_17⟩⟩
    case rest =>
     clear HC20; (try clear c18); (try clear c18b0); (try clear hcz14_0); (try clear hcz14_1); (try clear hcz14_2); (try clear hcz14_3); (try clear hfz14_0); (try clear hfz14_1); (try clear hfz14_2); (try clear hfz14_3)
     obtain ⟨kq, x26_19, rfl, HA, HJ19, HO_419000, HO_419001, HO_419003, BK399, BK418, HI0, HK, HB⟩ := hcut
     cases kq with
     | zero => exact absurd HA.out (by simp [spec_l1Rd_run.j1])
     | succ kj19 =>
      have H := HA.out; clear HA
      simp only [spec_l1Rd_run.j1] at H
      by_cases c23 : x26_19 = true
      ·subst c23
       replace H := ifT_ H; replace H := Option.bind_eq_some_iff.mp H
       obtain ⟨⟨t423, t426, t429, t430, t433⟩, A240, H⟩ := H
       (try dsimp only at H)
       have A24 := mk_ A240; clear A240; have H' := mk_ H; clear H; have hnb25 := NB418_399.out; have hnc25 := NB399_418.out; have hnb26 := NB418_0.out; have hnc26 := NB0_418.out
       obtain ⟨hcz27_0, hcz27_1, hcz27_2, hcz27_3, hfz27_0, hfz27_1, hfz27_2, hfz27_3⟩ := cf4_ BK418
       obtain ⟨Ao28, co28, eo28⟩ := Kd.S_slice HO_419000.out
       subst eo28
       obtain ⟨Ao29, co29, eo29⟩ := Kd.R_slice HO_419001.out
       subst eo29
       obtain ⟨Ao30, co30, eo30⟩ := Kd.R_slice HO_419003.out
       subst eo30
       go_wp2_with (first | ((with_reducible refine gate_callee (f := 41) rfl ?_); refine gL_ (some 31) Try.func41 #[.agg #[.slice Ao28 x419000_1.length co28, .slice Ao29 x419001_1.length co29, .int .i64 x419002_1, .slice Ao30 x419003_1.length co30]] ?_; (with_reducible refine (spec_StartTasks.calls kj19 _ _ x419000_1 _ _ x419001_1 x419002_1 _ _ x419003_1 t423 t426 t429 t430 t433 _ ?side1 ?side2 ?side3 ?side4 ?side5 ?side6 A24.out).mono ?_); (case side1 => exact sD_ HO_419000); (case side2 => exact (Kd.S_reads' HO_419000.out).2.1); (case side3 => exact rD_ HO_419001); (case side4 => exact (Kd.R_reads' HO_419001.out).2.1); (case side5 => exact rD_ HO_419003); (case side6 => exact (Kd.R_reads' HO_419003.out).2.1); rintro e w31 ⟨v424, v427, v431, v434, rfl, ho0, ho1, ho2, ho3, hb⟩; refine ⟨_, rfl, ?_⟩; have HO425 := mk_ (Kd.S_lower (Kd.S_new' (Kd.S_new' ho0 (sLt_ HO_419000)) (rLt_ HO_419001)) (keep_size (w := w) (g := g) (row := none) sAKeep_17)); replace HO_419000 := mk_ (Kd.S_mono (Kd.S_told (Kd.S_told (Kd.S_told (Kd.S_old (sT_ HO_419000) hb) (Kd.S_base ho0)) (Kd.R_base ho1)) (Kd.R_base ho3)) (fun _ h_ => h_.1)); have HO428 := mk_ (Kd.R_lower (rN_ ho1 HO_419001) (keep_size (w := w) (g := g) (row := none) sAKeep_17)); have HO432 := mk_ (Kd.R_lower (rN_ ho2 HO_419003) (keep_size (w := w) (g := g) (row := none) sAKeep_17)); replace HO_419003 := rE_ HO_419003 ho2 hb; have HO435 := mk_ (Kd.R_lower (rN_ ho3 HO_419001) (keep_size (w := w) (g := g) (row := none) sAKeep_17)); replace HO_419001 := mk_ (Kd.R_mono (Kd.R_told (Kd.R_told (Kd.R_old (rT_ HO_419001) hb) (Kd.R_base ho1)) (Kd.R_base ho3)) (fun _ h_ => h_.1)); replace BK399 := bB_ BK399 hb; replace BK418 := bB_ BK418 hb; replace HK := mk_ (KeepBut.trans (w := w) (row := none) sAKeep_17 (KeepBut.of_below hb g none) (.inl rfl)); replace HB := mk_ (below_step sABelo_17 hb); replace HI0 := mk_ (IsS99.below sAIsS99_17 hb); (try clear hb); (try clear hk); (try clear hi); (try clear ho0); (try clear ho1); (try clear ho2); (try clear ho3); obtain ⟨Ao32, co32, eo32⟩ := Kd.S_slice HO425.out; subst eo32; obtain ⟨hcz33_0, hcz33_1, hcz33_2, hcz33_3, hfz33_0, hfz33_1, hfz33_2, hfz33_3⟩ := cf4_ BK418; obtain ⟨Ao34, co34, eo34⟩ := Kd.R_slice HO428.out; subst eo34; obtain ⟨Ao35, co35, eo35⟩ := Kd.R_slice HO432.out; subst eo35))
       go_roundg kj19
       case measure => have := HK1.out; have := HJ19.out; omega
       case rel => exact ⟨(wrap64 (x6_1 + 1)), (t422), (t423), (t426), (t429), (t430), (.slice Ao32 t423.length co32), (.slice Ao34 t426.length co34), (.slice Ao35 t430.length co35), eS_, H', ⟨by have := HK1.out; have := HJ19.out; omega⟩, ⟨sFM_ HO425 BK418⟩, ⟨rFM_ HO428 BK418⟩, ⟨rFM_ HO432 BK418⟩, ⟨bF_ BK399 NB399_418⟩, ⟨bP_ BK418⟩, ⟨sAIsS99_17⟩, ⟨sAKeep_17⟩, ⟨sABelo_17⟩⟩
      ·replace c23 := Bool.eq_false_iff.mpr c23
       subst c23
       replace H := ifF_ H; have HC36 := mk_ H; clear H
       go_upto_if 34 with (fail)
       go_cut [34] (fun v34 wc => ∃ (kq : Nat) (x34_35 : Bool), v34 = .bool x34_35 ∧ Aside0 (spec_l1Rd_run.j2 kq t419 x6_1 t421 x34_35 s0_0 t422 x419000_1 x419001_1 x419002_1 x419003_1 = some (r1, r2, r3, r4, r5)) ∧ Aside0 (kq ≤ kj19) ∧ Aside0 (Kd.S k39 39 wc w.heap.size (fun k_ => some k_ ≠ (u419001 : Value).ownBlock) u419000 x419000_1) ∧ Aside0 (Kd.R (Kd.int .i64) 2 wc w.heap.size (fun _ => True) u419001 x419001_1) ∧ Aside0 (Kd.R k43 43 wc w.heap.size (fun _ => True) u419003 x419003_1) ∧ Aside0 (wc.heap[gb399]? = some (.cells #[(.slice none 0 0), (.slice none 0 0), .int .i64 0, (.slice none 0 0)] 31 (0, 0))) ∧ Aside0 (wc.heap[gb418]? = some (.cells #[u419000, u419001, .int .i64 x419002_1, u419003] 31 (0, 0))) ∧ Aside0 (IsS99 w0 wc g s0_0 t422) ∧ Aside0 (KeepBut w wc g none) ∧ Aside0 (Below w0.heap.size w0 wc))
       case first =>
        have H := HC36.out; clear HC36
        by_cases c37 : t421 = 2
        ·rw [if_pos c37] at H
         have c37b0 := beq_iff_eq.mpr c37
         have c37b1 := bne_eq_false_iff_eq.mpr c37
         clear c37
         (first | rw [c37b0] | (simp only [i64_w, i32_w]; rw [c37b0]) | skip)
         have H' := mk_ H; clear H
         go_wp2
         go_meet
         case rel => exact ⟨_, ((t421 == 2)), eS_, H', ⟨by have := HK1.out; have := HJ19.out; first | omega | exact Nat.le_refl _⟩, ⟨sT_ HO_419000⟩, ⟨rT_ HO_419001⟩, ⟨rT_ HO_419003⟩, ⟨bT_ BK399⟩, ⟨bT_ BK418⟩, ⟨sAIsS99_17⟩, ⟨sAKeep_17⟩, ⟨sABelo_17⟩⟩
        ·rw [if_neg c37] at H
         have c37b0 := beq_eq_false_iff_ne.mpr c37
         have c37b1 := bne_iff_ne.mpr c37
         (first | rw [c37b0] | (simp only [i64_w, i32_w]; rw [c37b0]) | skip)
         have H' := mk_ H; clear H
         go_wp2
         go_meet
         case rel => exact ⟨_, ((t421 == 3)), eS_, H', ⟨by have := HK1.out; have := HJ19.out; first | omega | exact Nat.le_refl _⟩, ⟨sT_ HO_419000⟩, ⟨rT_ HO_419001⟩, ⟨rT_ HO_419003⟩, ⟨bT_ BK399⟩, ⟨bT_ BK418⟩, ⟨sAIsS99_17⟩, ⟨sAKeep_17⟩, ⟨sABelo_17⟩⟩
       case rest =>
        clear HC36; (try clear c18); (try clear c18b0); (try clear c23); (try clear hcz14_0); (try clear hcz14_1); (try clear hcz14_2); (try clear hcz14_3); (try clear hfz14_0); (try clear hfz14_1); (try clear hfz14_2); (try clear hfz14_3)
        obtain ⟨kq, x34_35, rfl, HA, HJ35, HO_419000, HO_419001, HO_419003, BK399, BK418, HI0, HK, HB⟩ := hcut
        cases kq with
        | zero => exact absurd HA.out (by simp [spec_l1Rd_run.j2])
        | succ kj35 =>
         have H := HA.out; clear HA
         simp only [spec_l1Rd_run.j2] at H
         by_cases c38 : x34_35 = true
         ·subst c38
          replace H := ifT_ H; replace H := Option.bind_eq_some_iff.mp H
          obtain ⟨⟨t436, t437⟩, A390, H⟩ := H
          (try dsimp only at H)
          have A39 := mk_ A390; clear A390; replace H := Option.bind_eq_some_iff.mp H
          obtain ⟨⟨t438, t439⟩, A400, H⟩ := H
          (try dsimp only at H)
          have A40 := mk_ A400; clear A400; replace H := Option.bind_eq_some_iff.mp H
          obtain ⟨⟨t440, t443, t446, t447, t450⟩, A410, H⟩ := H
          (try dsimp only at H)
          have A41 := mk_ A410; clear A410; have H' := mk_ H; clear H
          try go_wp2
          replace HO_419000 := mk_ (Kd.S_drew HO_419000.out)
          replace HO_419001 := mk_ (Kd.R_drew HO_419001.out)
          replace HO_419003 := mk_ (Kd.R_drew HO_419003.out)
          replace BK399 := mk_ (blk_drew BK399.out)
          replace BK418 := mk_ (blk_drew BK418.out)
          replace HI0 := mk_ (IsS99.drew HI0.out)
          replace HK := mk_ (keep_drew HK.out)
          replace HB := mk_ (below_drew1 HB.out)
          obtain ⟨Ao43, co43, eo43⟩ := Kd.R_slice HO_419003.out
          (first | subst eo43 | (injection eo43 with f1_ f2_ f3_; have f4_ := f1_.symm; have f5_ := f3_.symm; clear f1_ f2_ f3_; subst f4_; subst f5_))
          refine start_ (n := 15) (S := fun w' => w'.cell? ⟨gb418, 0, none⟩ = some (u419000) ∧ w'.cell? ⟨gb418, 1, none⟩ = some (u419001) ∧ w'.cell? ⟨gb418, 2, none⟩ = some (.int .i64 x419002_1) ∧ w'.cell? ⟨gb418, 3, none⟩ = some (.slice Ao43 x419003_1.length co43)) (ds := [14]) (uu 0 15) (by kernel_rfl) rfl rfl ⟨(blk_cell BK418.out 0).trans rfl, (blk_cell BK418.out 1).trans rfl, (blk_cell BK418.out 2).trans rfl, (blk_cell BK418.out 3).trans rfl⟩ (fun hHeld => ?_); refine with_tabW spec_l1Rd_run.tab14 spec_l1Rd_run.bits14 (fun HT_ HW_ => ?_)
          generalize wc.drew = w42 at HO_419000 HO_419001 HO_419003 BK399 BK418 HI0 HK HB hHeld ⊢
          refine pT_ 1 (some 39) #[false, true, false, false, false, false, false, false, false, false, false, false, false, false, false] HT_ ?_
          refine pT_ 2 (some 40) #[false, true, true, false, false, false, false, false, false, false, false, false, false, false, false] HT_ ?_
          refine pT_ 7 (some 45) #[false, true, true, false, false, false, false, true, false, false, false, false, false, false, false] HT_ ?_
          refine tT_ 0 (some 38) #[true, true, true, false, false, false, false, true, false, false, false, false, false, false, false] HT_ HW_ hHeld ?_ (hy := by rintro w' ⟨s0, s1, s2, s3⟩; go_simp; with_reducible rfl)
          refine tT_ 3 (some 41) #[true, true, true, true, false, false, false, true, false, false, false, false, false, false, false] HT_ HW_ hHeld ?_ (hy := by rintro w' ⟨s0, s1, s2, s3⟩; go_simp; with_reducible rfl)
          refine pT_ 4 (some 42) #[true, true, true, true, true, false, false, true, false, false, false, false, false, false, false] HT_ ?_
          refine one_ (i := 5) (N := some 43) #[true, true, true, true, true, true, false, true, false, false, false, false, false, false, false] rfl rfl (one_of HT_.out (by kernel_rfl)) (by decide) (fun K hK => ?_)
          refine goes_ Try.func56 (by kernel_rfl) rfl #[.pointer (some ⟨g, 0, none⟩), .int .i64 (x419003_1.length : Int)] (by rfl) rfl rfl (by (try simp only [List.map_toArray, List.map_cons, List.map_nil]); first | done | rfl | (simp only [List.length_drop, List.length_take]; rfl)) ?_
          with_reducible refine (spec_l1Rd_below.calls g s0_0 t422 (x419003_1.length : Int) t436 t437 w0 _ ?side1 ?side2 A39.out).mono ?_
          (case side1 => exact sAIsS99_17)
          (case side2 => exact sABelo_17)
          rintro e w44 ⟨rfl, hi, hb, hk⟩
          refine ⟨_, rfl, ?_⟩
          replace HO_419000 := mk_ (Kd.S_mono (Kd.S_keep (IsS99.apartS (show IsS99 w0 _ g s0_0 t422 from sAIsS99_17) (sT_ HO_419000) (by decide)) hk (fun _ h => h.2)) (fun _ h => h.1))
          replace HO_419001 := mk_ (Kd.R_mono (Kd.R_keep (IsS99.apart (show IsS99 w0 _ g s0_0 t422 from sAIsS99_17) (rT_ HO_419001) (by decide)) hk (fun _ h => h.2)) (fun _ h => h.1))
          replace HO_419003 := mk_ (Kd.R_mono (Kd.R_keep (IsS99.apart (show IsS99 w0 _ g s0_0 t422 from sAIsS99_17) (rT_ HO_419003) (by decide)) hk (fun _ h => h.2)) (fun _ h => h.1))
          replace BK399 := kB_ hk (bT_ BK399) NB399_0
          replace BK418 := kB_ hk (bT_ BK418) NB418_0
          replace HK := mk_ (KeepBut.trans (w := w) (row := none) sAKeep_17 hk (.inl rfl))
          replace HB := mk_ (hb)
          replace HI0 := mk_ (hi)
          (try clear hb); (try clear hk); (try clear hi)
          refine hK.out _ _ ⟨(blk_cell BK418.out 0).trans rfl, (blk_cell BK418.out 1).trans rfl, (blk_cell BK418.out 2).trans rfl, (blk_cell BK418.out 3).trans rfl⟩ (fun hHeld => ?_)
          clear hK K
          refine nS_ (some 43) ?_
          refine pT_ 6 (some 44) (uu 8 7) HT_ ?_
          refine one_ (i := 8) (N := some 46) (uu 9 6) rfl rfl (one_of HT_.out (by kernel_rfl)) (by decide) (fun K hK => ?_)
          refine goes_ Try.func57 (by kernel_rfl) rfl #[.pointer (some ⟨g, 0, none⟩), .int .i64 3] (by rfl) rfl rfl (by (try simp only [List.map_toArray, List.map_cons, List.map_nil]); first | done | rfl | (simp only [List.length_drop, List.length_take]; rfl)) ?_
          with_reducible refine (spec_l1Rd_once.calls g s0_0 t437 3 t438 t439 w0 _ ?side1 ?side2 A40.out).mono ?_
          (case side1 => exact sAIsS99_17)
          (case side2 => exact sABelo_17)
          rintro e w45 ⟨rfl, hi, hb, hk⟩
          refine ⟨_, rfl, ?_⟩
          replace HO_419000 := mk_ (Kd.S_mono (Kd.S_keep (IsS99.apartS (show IsS99 w0 _ g s0_0 t437 from sAIsS99_17) (sT_ HO_419000) (by decide)) hk (fun _ h => h.2)) (fun _ h => h.1))
          replace HO_419001 := mk_ (Kd.R_mono (Kd.R_keep (IsS99.apart (show IsS99 w0 _ g s0_0 t437 from sAIsS99_17) (rT_ HO_419001) (by decide)) hk (fun _ h => h.2)) (fun _ h => h.1))
          replace HO_419003 := mk_ (Kd.R_mono (Kd.R_keep (IsS99.apart (show IsS99 w0 _ g s0_0 t437 from sAIsS99_17) (rT_ HO_419003) (by decide)) hk (fun _ h => h.2)) (fun _ h => h.1))
          replace BK399 := kB_ hk (bT_ BK399) NB399_0
          replace BK418 := kB_ hk (bT_ BK418) NB418_0
          replace HK := mk_ (KeepBut.trans (w := w) (row := none) sAKeep_17 hk (.inl rfl))
          replace HB := mk_ (hb)
          replace HI0 := mk_ (hi)
          (try clear hb); (try clear hk); (try clear hi)
          obtain ⟨Ao46, co46, eo46⟩ := Kd.S_slice HO_419000.out
          (first | subst eo46 | (injection eo46 with f1_ f2_ f3_; have f4_ := f1_.symm; have f5_ := f3_.symm; clear f1_ f2_ f3_; subst f4_; subst f5_))
          obtain ⟨Ao47, co47, eo47⟩ := Kd.R_slice HO_419001.out
          (first | subst eo47 | (injection eo47 with f1_ f2_ f3_; have f4_ := f1_.symm; have f5_ := f3_.symm; clear f1_ f2_ f3_; subst f4_; subst f5_))
          refine hK.out _ _ ⟨(blk_cell BK418.out 0).trans rfl, (blk_cell BK418.out 1).trans rfl, (blk_cell BK418.out 2).trans rfl, (blk_cell BK418.out 3).trans rfl⟩ (fun hHeld => ?_)
          clear hK K
          refine nS_ (some 46) ?_
          refine pT_ 9 (some 47) (uu 10 5) HT_ ?_
          refine one_ (i := 10) (N := some 48) (uu 11 4) rfl rfl (one_of HT_.out (by kernel_rfl)) (by decide) (fun K hK => ?_)
          refine goes_ Try.func21 (by kernel_rfl) rfl #[.agg #[.slice Ao46 x419000_1.length co46, .slice Ao47 x419001_1.length co47, .int .i64 x419002_1, .slice Ao43 x419003_1.length co43], .int .i64 (wrap64 (1 + t436)), .bool (!t438)] (by rfl) rfl rfl (by (try simp only [List.map_toArray, List.map_cons, List.map_nil]); first | done | rfl | (simp only [List.length_drop, List.length_take]; rfl)) ?_
          with_reducible refine (spec_Report.calls kj35 _ _ x419000_1 _ _ x419001_1 x419002_1 _ _ x419003_1 (wrap64 (1 + t436)) (!t438) t440 t443 t446 t447 t450 _ ?side1 ?side2 ?side3 ?side4 ?side5 ?side6 A41.out).mono ?_
          (case side1 => exact sD_ HO_419000)
          (case side2 => exact (Kd.S_reads' HO_419000.out).2.1)
          (case side3 => exact rD_ HO_419001)
          (case side4 => exact (Kd.R_reads' HO_419001.out).2.1)
          (case side5 => exact rD_ HO_419003)
          (case side6 => exact (Kd.R_reads' HO_419003.out).2.1)
          rintro e w48 ⟨v441, v444, v448, rfl, ho0, ho1, ho2, hb⟩
          refine ⟨_, rfl, ?_⟩
          have HO442 := mk_ (Kd.S_lower (Kd.S_new' (Kd.S_new' ho0 (sLt_ HO_419000)) (rLt_ HO_419001)) (keep_size (w := w) (g := g) (row := none) sAKeep_17))
          replace HO_419000 := mk_ (Kd.S_mono (Kd.S_told (Kd.S_told (Kd.S_old (sT_ HO_419000) hb) (Kd.S_base ho0)) (Kd.R_base ho1)) (fun _ h_ => h_.1))
          have HO445 := mk_ (Kd.R_lower (rN_ ho1 HO_419001) (keep_size (w := w) (g := g) (row := none) sAKeep_17))
          replace HO_419001 := rE_ HO_419001 ho1 hb
          have HO449 := mk_ (Kd.R_lower (rN_ ho2 HO_419003) (keep_size (w := w) (g := g) (row := none) sAKeep_17))
          replace HO_419003 := rE_ HO_419003 ho2 hb; replace BK399 := bB_ BK399 hb; replace BK418 := bB_ BK418 hb
          replace HK := mk_ (KeepBut.trans (w := w) (row := none) sAKeep_17 (KeepBut.of_below hb g none) (.inl rfl))
          replace HB := mk_ (below_step sABelo_17 hb)
          replace HI0 := mk_ (IsS99.below sAIsS99_17 hb)
          (try clear hb); (try clear hk); (try clear hi); (try clear ho0); (try clear ho1); (try clear ho2)
          obtain ⟨Ao49, co49, eo49⟩ := Kd.S_slice HO442.out
          (first | subst eo49 | (injection eo49 with f1_ f2_ f3_; have f4_ := f1_.symm; have f5_ := f3_.symm; clear f1_ f2_ f3_; subst f4_; subst f5_))
          obtain ⟨Ao51, co51, eo51⟩ := Kd.R_slice HO445.out
          (first | subst eo51 | (injection eo51 with f1_ f2_ f3_; have f4_ := f1_.symm; have f5_ := f3_.symm; clear f1_ f2_ f3_; subst f4_; subst f5_))
          obtain ⟨Ao54, co54, eo54⟩ := Kd.R_slice HO449.out
          (first | subst eo54 | (injection eo54 with f1_ f2_ f3_; have f4_ := f1_.symm; have f5_ := f3_.symm; clear f1_ f2_ f3_; subst f4_; subst f5_))
          refine hK.out _ _ ⟨(blk_cell BK418.out 0).trans rfl, (blk_cell BK418.out 1).trans rfl, (blk_cell BK418.out 2).trans rfl, (blk_cell BK418.out 3).trans rfl⟩ (fun hHeld => ?_)
          clear hK K
          refine nS_ (some 48) ?_
          refine pT_ 11 (some 37) (uu 12 3) HT_ ?_
          refine pT_ 12 (some 49) (uu 13 2) HT_ ?_
          refine pT_ 13 (some 50) (uu 14 1) HT_ ?_
          refine last_ (i := 14) (N := none) (uu 15 0) rfl rfl (one_of HT_.out (by kernel_rfl)) (by decide) (fun K hK => ?_)
          have hs50 : w48.cell? ⟨gb418, 0, none⟩ = some (.slice Ao46 x419000_1.length co46) := (blk_cell BK418.out 0).trans rfl
          have hfs50 := blk_frozen BK418.out 0; have hns50_0 := NB399_418.out; have hms50_0 := NB418_399.out
          have hs52 : w48.cell? ⟨gb418, 1, none⟩ = some (.slice Ao47 x419001_1.length co47) := (blk_cell BK418.out 1).trans rfl
          have hfs52 := blk_frozen BK418.out 1; have hns52_0 := NB399_418.out; have hms52_0 := NB418_399.out
          have hs53 : w48.cell? ⟨gb418, 2, none⟩ = some (.int .i64 x419002_1) := (blk_cell BK418.out 2).trans rfl
          have hfs53 := blk_frozen BK418.out 2; have hns53_0 := NB399_418.out; have hms53_0 := NB418_399.out
          have hs55 : w48.cell? ⟨gb418, 3, none⟩ = some (.slice Ao43 x419003_1.length co43) := (blk_cell BK418.out 3).trans rfl
          have hfs55 := blk_frozen BK418.out 3; have hns55_0 := NB399_418.out; have hms55_0 := NB418_399.out
          refine skip_ (w1 := ?_) (by rfl) rfl ?_ ?_
          rotate_left
          ·go_simp
           rfl
          refine hK.out _ _ ?_
          clear hK K
          refine done_ (done_of HT_.out (by kernel_rfl)) ?_
          try go_wp2
          go_roundg kj35
          case measure => have := HK1.out; have := HJ19.out; have := HJ35.out; omega
          case rel => exact ⟨(wrap64 (x6_1 + 1)), (t439), (t440), (t443), (t446), (t447), (.slice Ao49 t440.length co49), (.slice Ao51 t443.length co51), (.slice Ao54 t447.length co54), eS_, H', ⟨by have := HK1.out; have := HJ19.out; have := HJ35.out; omega⟩, ⟨sFM_ HO442 BK418⟩, ⟨rFM_ HO445 BK418⟩, ⟨rFM_ HO449 BK418⟩, ⟨bF_ BK399 NB399_418⟩, ⟨bP_ BK418⟩, ⟨sAIsS99_17⟩, ⟨sAKeep_17⟩, ⟨sABelo_17⟩⟩
         ·replace c38 := Bool.eq_false_iff.mpr c38
          subst c38
          replace H := ifF_ H
          by_cases c56 : t421 = 4
          ·rw [if_pos c56] at H
           have c56b0 := beq_iff_eq.mpr c56
           have c56b1 := bne_eq_false_iff_eq.mpr c56
           clear c56; replace H := Option.bind_eq_some_iff.mp H
           obtain ⟨⟨t451, t452⟩, A570, H⟩ := H
           (try dsimp only at H)
           have A57 := mk_ A570; clear A570; replace H := Option.bind_eq_some_iff.mp H
           obtain ⟨⟨t453, t456, t459, t460, t463⟩, A580, H⟩ := H
           (try dsimp only at H)
           have A58 := mk_ A580; clear A580; have H' := mk_ H; clear H
           try go_wp2
           replace HO_419000 := mk_ (Kd.S_drew HO_419000.out)
           replace HO_419001 := mk_ (Kd.R_drew HO_419001.out)
           replace HO_419003 := mk_ (Kd.R_drew HO_419003.out)
           replace BK399 := mk_ (blk_drew BK399.out)
           replace BK418 := mk_ (blk_drew BK418.out)
           replace HI0 := mk_ (IsS99.drew HI0.out)
           replace HK := mk_ (keep_drew HK.out)
           replace HB := mk_ (below_drew1 HB.out)
           refine start_ (n := 8) (S := fun w' => w'.cell? ⟨gb418, 0, none⟩ = some (u419000) ∧ w'.cell? ⟨gb418, 1, none⟩ = some (u419001) ∧ w'.cell? ⟨gb418, 2, none⟩ = some (.int .i64 x419002_1) ∧ w'.cell? ⟨gb418, 3, none⟩ = some (u419003)) (ds := [7]) (uu 0 8) (by kernel_rfl) rfl rfl ⟨(blk_cell BK418.out 0).trans rfl, (blk_cell BK418.out 1).trans rfl, (blk_cell BK418.out 2).trans rfl, (blk_cell BK418.out 3).trans rfl⟩ (fun hHeld => ?_); refine with_tabW spec_l1Rd_run.tab16 spec_l1Rd_run.bits16 (fun HT_ HW_ => ?_)
           generalize wc.drew = w59 at HO_419000 HO_419001 HO_419003 BK399 BK418 HI0 HK HB hHeld ⊢
           refine pT_ 1 (some 55) #[false, true, false, false, false, false, false, false] HT_ ?_
           refine tT_ 0 (some 54) (uu 2 6) HT_ HW_ hHeld ?_ (hy := by rintro w' ⟨s0, s1, s2, s3⟩; go_simp; with_reducible rfl)
           refine one_ (i := 2) (N := some 56) (uu 3 5) rfl rfl (one_of HT_.out (by kernel_rfl)) (by decide) (fun K hK => ?_)
           refine goes_ Try.func56 (by kernel_rfl) rfl #[.pointer (some ⟨g, 0, none⟩), .int .i64 20] (by rfl) rfl rfl (by (try simp only [List.map_toArray, List.map_cons, List.map_nil]); first | done | rfl | (simp only [List.length_drop, List.length_take]; rfl)) ?_
           with_reducible refine (spec_l1Rd_below.calls g s0_0 t422 20 t451 t452 w0 _ ?side1 ?side2 A57.out).mono ?_
           (case side1 => exact sAIsS99_17)
           (case side2 => exact sABelo_17)
           rintro e w60 ⟨rfl, hi, hb, hk⟩
           refine ⟨_, rfl, ?_⟩
           replace HO_419000 := mk_ (Kd.S_mono (Kd.S_keep (IsS99.apartS (show IsS99 w0 _ g s0_0 t422 from sAIsS99_17) (sT_ HO_419000) (by decide)) hk (fun _ h => h.2)) (fun _ h => h.1))
           replace HO_419001 := mk_ (Kd.R_mono (Kd.R_keep (IsS99.apart (show IsS99 w0 _ g s0_0 t422 from sAIsS99_17) (rT_ HO_419001) (by decide)) hk (fun _ h => h.2)) (fun _ h => h.1))
           replace HO_419003 := mk_ (Kd.R_mono (Kd.R_keep (IsS99.apart (show IsS99 w0 _ g s0_0 t422 from sAIsS99_17) (rT_ HO_419003) (by decide)) hk (fun _ h => h.2)) (fun _ h => h.1))
           replace BK399 := kB_ hk (bT_ BK399) NB399_0
           replace BK418 := kB_ hk (bT_ BK418) NB418_0
           replace HK := mk_ (KeepBut.trans (w := w) (row := none) sAKeep_17 hk (.inl rfl))
           replace HB := mk_ (hb)
           replace HI0 := mk_ (hi)
           (try clear hb); (try clear hk); (try clear hi)
           obtain ⟨Ao61, co61, eo61⟩ := Kd.S_slice HO_419000.out
           (first | subst eo61 | (injection eo61 with f1_ f2_ f3_; have f4_ := f1_.symm; have f5_ := f3_.symm; clear f1_ f2_ f3_; subst f4_; subst f5_))
           obtain ⟨Ao62, co62, eo62⟩ := Kd.R_slice HO_419001.out
           (first | subst eo62 | (injection eo62 with f1_ f2_ f3_; have f4_ := f1_.symm; have f5_ := f3_.symm; clear f1_ f2_ f3_; subst f4_; subst f5_))
           obtain ⟨Ao63, co63, eo63⟩ := Kd.R_slice HO_419003.out
           (first | subst eo63 | (injection eo63 with f1_ f2_ f3_; have f4_ := f1_.symm; have f5_ := f3_.symm; clear f1_ f2_ f3_; subst f4_; subst f5_))
           refine hK.out _ _ ⟨(blk_cell BK418.out 0).trans rfl, (blk_cell BK418.out 1).trans rfl, (blk_cell BK418.out 2).trans rfl, (blk_cell BK418.out 3).trans rfl⟩ (fun hHeld => ?_)
           clear hK K
           refine nS_ (some 56) ?_
           refine one_ (i := 3) (N := some 57) (uu 4 4) rfl rfl (one_of HT_.out (by kernel_rfl)) (by decide) (fun K hK => ?_)
           refine goes_ Try.func24 (by kernel_rfl) rfl #[.agg #[.slice Ao61 x419000_1.length co61, .slice Ao62 x419001_1.length co62, .int .i64 x419002_1, .slice Ao63 x419003_1.length co63], .int .i64 t451] (by rfl) rfl rfl (by (try simp only [List.map_toArray, List.map_cons, List.map_nil]); first | done | rfl | (simp only [List.length_drop, List.length_take]; rfl)) ?_
           with_reducible refine (spec_TickRun.calls kj35 _ _ x419000_1 _ _ x419001_1 x419002_1 _ _ x419003_1 t451 t453 t456 t459 t460 t463 _ ?side1 ?side2 ?side3 ?side4 ?side5 ?side6 A58.out).mono ?_
           (case side1 => exact sD_ HO_419000)
           (case side2 => exact (Kd.S_reads' HO_419000.out).2.1)
           (case side3 => exact rD_ HO_419001)
           (case side4 => exact (Kd.R_reads' HO_419001.out).2.1)
           (case side5 => exact rD_ HO_419003)
           (case side6 => exact (Kd.R_reads' HO_419003.out).2.1)
           rintro e w64 ⟨v454, v457, v461, v464, rfl, ho0, ho1, ho2, ho3, hb⟩
           refine ⟨_, rfl, ?_⟩
           have HO455 := mk_ (Kd.S_lower (Kd.S_new' (Kd.S_new' ho0 (sLt_ HO_419000)) (rLt_ HO_419001)) (keep_size (w := w) (g := g) (row := none) sAKeep_17))
           replace HO_419000 := mk_ (Kd.S_mono (Kd.S_told (Kd.S_told (Kd.S_told (Kd.S_old (sT_ HO_419000) hb) (Kd.S_base ho0)) (Kd.R_base ho1)) (Kd.R_base ho3)) (fun _ h_ => h_.1))
           have HO458 := mk_ (Kd.R_lower (rN_ ho1 HO_419001) (keep_size (w := w) (g := g) (row := none) sAKeep_17))
           have HO462 := mk_ (Kd.R_lower (rN_ ho2 HO_419003) (keep_size (w := w) (g := g) (row := none) sAKeep_17))
           replace HO_419003 := rE_ HO_419003 ho2 hb
           have HO465 := mk_ (Kd.R_lower (rN_ ho3 HO_419001) (keep_size (w := w) (g := g) (row := none) sAKeep_17))
           replace HO_419001 := mk_ (Kd.R_mono (Kd.R_told (Kd.R_told (Kd.R_old (rT_ HO_419001) hb) (Kd.R_base ho1)) (Kd.R_base ho3)) (fun _ h_ => h_.1))
           replace BK399 := bB_ BK399 hb; replace BK418 := bB_ BK418 hb
           replace HK := mk_ (KeepBut.trans (w := w) (row := none) sAKeep_17 (KeepBut.of_below hb g none) (.inl rfl))
           replace HB := mk_ (below_step sABelo_17 hb)
           replace HI0 := mk_ (IsS99.below sAIsS99_17 hb)
           (try clear hb); (try clear hk); (try clear hi); (try clear ho0); (try clear ho1); (try clear ho2); (try clear ho3)
           obtain ⟨Ao65, co65, eo65⟩ := Kd.S_slice HO455.out
           (first | subst eo65 | (injection eo65 with f1_ f2_ f3_; have f4_ := f1_.symm; have f5_ := f3_.symm; clear f1_ f2_ f3_; subst f4_; subst f5_))
           obtain ⟨Ao67, co67, eo67⟩ := Kd.R_slice HO458.out
           (first | subst eo67 | (injection eo67 with f1_ f2_ f3_; have f4_ := f1_.symm; have f5_ := f3_.symm; clear f1_ f2_ f3_; subst f4_; subst f5_))
           obtain ⟨Ao70, co70, eo70⟩ := Kd.R_slice HO462.out
           (first | subst eo70 | (injection eo70 with f1_ f2_ f3_; have f4_ := f1_.symm; have f5_ := f3_.symm; clear f1_ f2_ f3_; subst f4_; subst f5_))
           refine hK.out _ _ ⟨(blk_cell BK418.out 0).trans rfl, (blk_cell BK418.out 1).trans rfl, (blk_cell BK418.out 2).trans rfl, (blk_cell BK418.out 3).trans rfl⟩ (fun hHeld => ?_)
           clear hK K
           refine nS_ (some 57) ?_
           refine pT_ 4 (some 53) (uu 5 3) HT_ ?_
           refine pT_ 5 (some 58) (uu 6 2) HT_ ?_
           refine pT_ 6 (some 59) (uu 7 1) HT_ ?_
           refine last_ (i := 7) (N := none) (uu 8 0) rfl rfl (one_of HT_.out (by kernel_rfl)) (by decide) (fun K hK => ?_)
           have hs66 : w64.cell? ⟨gb418, 0, none⟩ = some (.slice Ao61 x419000_1.length co61) := (blk_cell BK418.out 0).trans rfl
           have hfs66 := blk_frozen BK418.out 0; have hns66_0 := NB399_418.out; have hms66_0 := NB418_399.out
           have hs68 : w64.cell? ⟨gb418, 1, none⟩ = some (.slice Ao62 x419001_1.length co62) := (blk_cell BK418.out 1).trans rfl
           have hfs68 := blk_frozen BK418.out 1; have hns68_0 := NB399_418.out; have hms68_0 := NB418_399.out
           have hs69 : w64.cell? ⟨gb418, 2, none⟩ = some (.int .i64 x419002_1) := (blk_cell BK418.out 2).trans rfl
           have hfs69 := blk_frozen BK418.out 2; have hns69_0 := NB399_418.out; have hms69_0 := NB418_399.out
           have hs71 : w64.cell? ⟨gb418, 3, none⟩ = some (.slice Ao63 x419003_1.length co63) := (blk_cell BK418.out 3).trans rfl
           have hfs71 := blk_frozen BK418.out 3; have hns71_0 := NB399_418.out; have hms71_0 := NB418_399.out
           refine skip_ (w1 := ?_) (by rfl) rfl ?_ ?_
           rotate_left
           ·go_simp
            rfl
           refine hK.out _ _ ?_
           clear hK K
           refine done_ (done_of HT_.out (by kernel_rfl)) ?_
           try go_wp2
           go_roundg kj35
           case measure => have := HK1.out; have := HJ19.out; have := HJ35.out; omega
           case rel => exact ⟨(wrap64 (x6_1 + 1)), (t452), (t453), (t456), (t459), (t460), (.slice Ao65 t453.length co65), (.slice Ao67 t456.length co67), (.slice Ao70 t460.length co70), eS_, H', ⟨by have := HK1.out; have := HJ19.out; have := HJ35.out; omega⟩, ⟨sFM_ HO455 BK418⟩, ⟨rFM_ HO458 BK418⟩, ⟨rFM_ HO462 BK418⟩, ⟨bF_ BK399 NB399_418⟩, ⟨bP_ BK418⟩, ⟨sAIsS99_17⟩, ⟨sAKeep_17⟩, ⟨sABelo_17⟩⟩
          ·rw [if_neg c56] at H
           have c56b0 := beq_eq_false_iff_ne.mpr c56
           have c56b1 := bne_iff_ne.mpr c56
           replace H := Option.bind_eq_some_iff.mp H
           obtain ⟨⟨t466, t467⟩, A720, H⟩ := H
           (try dsimp only at H)
           have A72 := mk_ A720; clear A720
           by_cases c73 : t466 = true
           ·subst c73
            replace H := ifT_ H; replace H := Option.bind_eq_some_iff.mp H
            obtain ⟨⟨t468, t471, t474, t475⟩, A740, H⟩ := H
            (try dsimp only at H)
            have A74 := mk_ A740; clear A740; have H' := mk_ H; clear H
            go_wp2_with (first | ((with_reducible refine gate_callee (f := 57) rfl ?_); refine gL_ (some 23) Try.func57 #[.pointer (some ⟨g, 0, none⟩), .int .i64 2] ?_; (with_reducible refine (spec_l1Rd_once.calls g s0_0 t422 2 true t467 w0 _ ?side1 ?side2 A72.out).mono ?_); (case side1 => exact sAIsS99_17); (case side2 => exact sABelo_17); rintro e w75 ⟨rfl, hi, hb, hk⟩; refine ⟨_, rfl, ?_⟩; replace HO_419000 := mk_ (Kd.S_mono (Kd.S_keep (IsS99.apartS (show IsS99 w0 _ g s0_0 t422 from sAIsS99_17) (sT_ HO_419000) (by decide)) hk (fun _ h => h.2)) (fun _ h => h.1)); replace HO_419001 := mk_ (Kd.R_mono (Kd.R_keep (IsS99.apart (show IsS99 w0 _ g s0_0 t422 from sAIsS99_17) (rT_ HO_419001) (by decide)) hk (fun _ h => h.2)) (fun _ h => h.1)); replace HO_419003 := mk_ (Kd.R_mono (Kd.R_keep (IsS99.apart (show IsS99 w0 _ g s0_0 t422 from sAIsS99_17) (rT_ HO_419003) (by decide)) hk (fun _ h => h.2)) (fun _ h => h.1)); replace BK399 := kB_ hk (bT_ BK399) NB399_0; replace BK418 := kB_ hk (bT_ BK418) NB418_0; replace HK := mk_ (KeepBut.trans (w := w) (row := none) sAKeep_17 hk (.inl rfl)); replace HB := mk_ (hb); replace HI0 := mk_ (hi); (try clear hb); (try clear hk); (try clear hi); have hnb76 := NB418_399.out; have hnc76 := NB399_418.out; have hnb77 := NB418_0.out; have hnc77 := NB0_418.out; obtain ⟨hcz78_0, hcz78_1, hcz78_2, hcz78_3, hfz78_0, hfz78_1, hfz78_2, hfz78_3⟩ := cf4_ BK418; obtain ⟨Ao79, co79, eo79⟩ := Kd.S_slice HO_419000.out; subst eo79; obtain ⟨Ao80, co80, eo80⟩ := Kd.R_slice HO_419001.out; subst eo80; obtain ⟨Ao81, co81, eo81⟩ := Kd.R_slice HO_419003.out; subst eo81) | ((with_reducible refine gate_callee (f := 40) rfl ?_); refine gL_ (some 25) Try.func40 #[.agg #[.slice Ao79 x419000_1.length co79, .slice Ao80 x419001_1.length co80, .int .i64 x419002_1, .slice Ao81 x419003_1.length co81]] ?_; (with_reducible refine (spec_CrashRun.calls kj35 _ _ x419000_1 _ _ x419001_1 x419002_1 _ _ x419003_1 t468 t471 t474 t475 _ ?side1 ?side2 ?side3 ?side4 ?side5 ?side6 A74.out).mono ?_); (case side1 => exact sD_ HO_419000); (case side2 => exact (Kd.S_reads' HO_419000.out).2.1); (case side3 => exact rD_ HO_419001); (case side4 => exact (Kd.R_reads' HO_419001.out).2.1); (case side5 => exact rD_ HO_419003); (case side6 => exact (Kd.R_reads' HO_419003.out).2.1); rintro e w82 ⟨v469, v472, v476, rfl, ho0, ho1, ho2, hb⟩; refine ⟨_, rfl, ?_⟩; have HO470 := mk_ (Kd.S_lower (Kd.S_new' (Kd.S_new' ho0 (sLt_ HO_419000)) (rLt_ HO_419001)) (keep_size (w := w) (g := g) (row := none) sAKeep_17)); replace HO_419000 := mk_ (Kd.S_mono (Kd.S_told (Kd.S_told (Kd.S_old (sT_ HO_419000) hb) (Kd.S_base ho0)) (Kd.R_base ho1)) (fun _ h_ => h_.1)); have HO473 := mk_ (Kd.R_lower (rN_ ho1 HO_419001) (keep_size (w := w) (g := g) (row := none) sAKeep_17)); replace HO_419001 := rE_ HO_419001 ho1 hb; have HO477 := mk_ (Kd.R_lower (rN_ ho2 HO_419003) (keep_size (w := w) (g := g) (row := none) sAKeep_17)); replace HO_419003 := rE_ HO_419003 ho2 hb; replace BK399 := bB_ BK399 hb; replace BK418 := bB_ BK418 hb; replace HK := mk_ (KeepBut.trans (w := w) (row := none) sAKeep_17 (KeepBut.of_below hb g none) (.inl rfl)); replace HB := mk_ (below_step sABelo_17 hb); replace HI0 := mk_ (IsS99.below sAIsS99_17 hb); (try clear hb); (try clear hk); (try clear hi); (try clear ho0); (try clear ho1); (try clear ho2); obtain ⟨Ao83, co83, eo83⟩ := Kd.S_slice HO470.out; subst eo83; obtain ⟨hcz84_0, hcz84_1, hcz84_2, hcz84_3, hfz84_0, hfz84_1, hfz84_2, hfz84_3⟩ := cf4_ BK418; obtain ⟨Ao85, co85, eo85⟩ := Kd.R_slice HO473.out; subst eo85; obtain ⟨Ao86, co86, eo86⟩ := Kd.R_slice HO477.out; subst eo86))
            go_roundg kj35
            case measure => have := HK1.out; have := HJ19.out; have := HJ35.out; omega
            case rel => exact ⟨(wrap64 (x6_1 + 1)), (t467), (t468), (t471), (t474), (t475), (.slice Ao83 t468.length co83), (.slice Ao85 t471.length co85), (.slice Ao86 t475.length co86), eS_, H', ⟨by have := HK1.out; have := HJ19.out; have := HJ35.out; omega⟩, ⟨sFM_ HO470 BK418⟩, ⟨rFM_ HO473 BK418⟩, ⟨rFM_ HO477 BK418⟩, ⟨bF_ BK399 NB399_418⟩, ⟨bP_ BK418⟩, ⟨sAIsS99_17⟩, ⟨sAKeep_17⟩, ⟨sABelo_17⟩⟩
           ·replace c73 := Bool.eq_false_iff.mpr c73
            subst c73
            replace H := ifF_ H; have H' := mk_ H; clear H
            go_wp2_with (first | ((with_reducible refine gate_callee (f := 57) rfl ?_); refine gL_ (some 23) Try.func57 #[.pointer (some ⟨g, 0, none⟩), .int .i64 2] ?_; (with_reducible refine (spec_l1Rd_once.calls g s0_0 t422 2 false t467 w0 _ ?side1 ?side2 A72.out).mono ?_); (case side1 => exact sAIsS99_17); (case side2 => exact sABelo_17); rintro e w87 ⟨rfl, hi, hb, hk⟩; refine ⟨_, rfl, ?_⟩; replace HO_419000 := mk_ (Kd.S_mono (Kd.S_keep (IsS99.apartS (show IsS99 w0 _ g s0_0 t422 from sAIsS99_17) (sT_ HO_419000) (by decide)) hk (fun _ h => h.2)) (fun _ h => h.1)); replace HO_419001 := mk_ (Kd.R_mono (Kd.R_keep (IsS99.apart (show IsS99 w0 _ g s0_0 t422 from sAIsS99_17) (rT_ HO_419001) (by decide)) hk (fun _ h => h.2)) (fun _ h => h.1)); replace HO_419003 := mk_ (Kd.R_mono (Kd.R_keep (IsS99.apart (show IsS99 w0 _ g s0_0 t422 from sAIsS99_17) (rT_ HO_419003) (by decide)) hk (fun _ h => h.2)) (fun _ h => h.1)); replace BK399 := kB_ hk (bT_ BK399) NB399_0; replace BK418 := kB_ hk (bT_ BK418) NB418_0; replace HK := mk_ (KeepBut.trans (w := w) (row := none) sAKeep_17 hk (.inl rfl)); replace HB := mk_ (hb); replace HI0 := mk_ (hi); (try clear hb); (try clear hk); (try clear hi)))
            go_roundg kj35
            case measure => have := HK1.out; have := HJ19.out; have := HJ35.out; omega
            case rel => exact ⟨(wrap64 (x6_1 + 1)), (t467), (x419000_1), (x419001_1), (x419002_1), (x419003_1), (u419000), (u419001), (u419003), eS_, H', ⟨by have := HK1.out; have := HJ19.out; have := HJ35.out; omega⟩, ⟨sT_ HO_419000⟩, ⟨rT_ HO_419001⟩, ⟨rT_ HO_419003⟩, ⟨bT_ BK399⟩, ⟨bT_ BK418⟩, ⟨sAIsS99_17⟩, ⟨sAKeep_17⟩, ⟨sABelo_17⟩⟩
   ·rw [if_neg c18] at H
    have c18b0 := decide_eq_false c18
    clear c18
    simp only [Option.some.injEq, Prod.mk.injEq] at H
    obtain ⟨rfl, rfl, rfl, rfl, rfl⟩ := H
    have hnb88 := NB418_399.out; have hnc88 := NB399_418.out; have hnb89 := NB418_0.out; have hnc89 := NB0_418.out
    obtain ⟨hcz90_0, hcz90_1, hcz90_2, hcz90_3, hfz90_0, hfz90_1, hfz90_2, hfz90_3⟩ := cf4_ BK418
    obtain ⟨Ao91, co91, eo91⟩ := Kd.S_slice HO_419000.out
    subst eo91
    have hnb92 := NB399_0.out; have hnc92 := NB0_399.out
    obtain ⟨hcz93_0, hcz93_1, hcz93_2, hcz93_3, hfz93_0, hfz93_1, hfz93_2, hfz93_3⟩ := cf4_ BK399
    obtain ⟨Ao94, co94, eo94⟩ := Kd.R_slice HO_419001.out
    subst eo94
    obtain ⟨Ao95, co95, eo95⟩ := Kd.R_slice HO_419003.out
    subst eo95
    go_wp2
    refine bodyPost_ret (results_cell_row rfl _ _ gb399 31 #[.slice Ao91 x419000_1.length co91, .slice Ao94 x419001_1.length co94, .int .i64 x419002_1, .slice Ao95 x419003_1.length co95] (0, 0) _ rfl (bP_ BK399) Try.underlying31 rfl (by kernel_rfl)) rfl ?_
    exact ⟨_, _, _, eW_, by (with_reducible repeat (first | apply Kd.S_alloc | apply Kd.S_drewN | apply Kd.S_drew)); exact Kd.S_mono (Kd.S_far (p := ⟨gb399, 3, none⟩) (Kd.S_far (p := ⟨gb399, 2, none⟩) (Kd.S_far (p := ⟨gb399, 1, none⟩) (Kd.S_far (p := ⟨gb399, 0, none⟩) (Kd.S_types HO_419000.out BK399.out (by decide)) (fun _ hk => hk.2) (.slice Ao91 x419000_1.length co91)) (fun _ hk => hk.2) (.slice Ao94 x419001_1.length co94)) (fun _ hk => hk.2) (.int .i64 x419002_1)) (fun _ hk => hk.2) (.slice Ao95 x419003_1.length co95)) (fun _ hk => hk.1), by (with_reducible repeat (first | apply Kd.R_alloc | apply Kd.R_drewN | apply Kd.R_drew)); exact Kd.R_mono (Kd.R_far (p := ⟨gb399, 3, none⟩) (Kd.R_far (p := ⟨gb399, 2, none⟩) (Kd.R_far (p := ⟨gb399, 1, none⟩) (Kd.R_far (p := ⟨gb399, 0, none⟩) (Kd.R_types HO_419001.out BK399.out (by decide)) (fun _ hk => hk.2) (.slice Ao91 x419000_1.length co91)) (fun _ hk => hk.2) (.slice Ao94 x419001_1.length co94)) (fun _ hk => hk.2) (.int .i64 x419002_1)) (fun _ hk => hk.2) (.slice Ao95 x419003_1.length co95)) (fun _ hk => trivial), by (with_reducible repeat (first | apply Kd.R_alloc | apply Kd.R_drewN | apply Kd.R_drew)); exact Kd.R_mono (Kd.R_far (p := ⟨gb399, 3, none⟩) (Kd.R_far (p := ⟨gb399, 2, none⟩) (Kd.R_far (p := ⟨gb399, 1, none⟩) (Kd.R_far (p := ⟨gb399, 0, none⟩) (Kd.R_types HO_419003.out BK399.out (by decide)) (fun _ hk => hk.2) (.slice Ao91 x419000_1.length co91)) (fun _ hk => hk.2) (.slice Ao94 x419001_1.length co94)) (fun _ hk => hk.2) (.int .i64 x419002_1)) (fun _ hk => hk.2) (.slice Ao95 x419003_1.length co95)) (fun _ hk => trivial), sAIsS99_17, sABelo_17, sAKeep_17⟩

end Go.Proofs.Ytjoghfehmhapbaa.QFnReportsAnyway
