-- Written by a program of this session out of the printer's texts and contracts of its own.
import Derived.Test.YtjoghfehmhapbaaSq
import Derived.Test.YtjoghfehmhapbaaQFnLateOncex0
import Derived.Test.YtjoghfehmhapbaaQFnLateOncex4
import Derived.Test.YtjoghfehmhapbaaQFnLateOncex5
import Derived.Test.YtjoghfehmhapbaaQFnLateOncex6
import Derived.Test.YtjoghfehmhapbaaQFnLateOncex7
namespace Go.Proofs.Ytjoghfehmhapbaa.QFnLateOnce
open Go.RowKit Go.Proofs.YtjoghfehmhapbaaW.PrintWords Go.Proofs.YtjoghfehmhapbaaW.PrintLast Go.Proofs.YtjoghfehmhapbaaW.PrintMore Go.Proofs.Ytjoghfehmhapbaa.Sq
attribute [local go_sem] max2_int min2_int max_two min_two max_three min_three max_four min_four   -- for this text's walks alone
set_option linter.unusedVariables false
set_option linter.unusedSimpArgs false
theorem sABelo_10 {b : Nat} {w W : World} (h : Below b w W := by repeat (first | (with_reducible first | exact Aside0.out (by assumption) | apply below_alloc | apply pw_below_drewN | apply below_drew1 | refine below_set ?_ (Aside0.out (by assumption))) | exact Aside0.out (by assumption))) : Below b w W := h

/-! ### spec_StartTasks: function 41 -/
def spec_StartTasks.l0 : Nat → List Int → Int → List (S39) → List Int → Int → List (S43) → Option ((List (S39)) × List Int × Int × (List (S43)) × List Int)
 | 0, _, _, _, _, _, _ => none
 | k + 1, x4, x6, x270000, x270001, x270002, x270003 => if x6 < (x270003.length : Int) then (if 0 ≤ x6 then (if x6 < (x270000.length : Int) then (if ((rd_T43 x270003 x6).f0) = 0 then ((spec_l24Free.f k x270000 x270001 x270002 x270003 x6).bind fun t272 => (if t272 = true then ((spec_l24Running.f k x270000 x270001 x270002 x270003 ((rd_T39 x270000 x6).f1)).bind fun t273 => (if 0 ≤ (wrap64 (((rd_T39 x270000 x6).f1) - 1)) then (if (wrap64 (((rd_T39 x270000 x6).f1) - 1)) < (x270001.length : Int) then (if t273 < (rd x270001 (wrap64 (((rd_T39 x270000 x6).f1) - 1))) then (if x4.length < 17592186044416 then (spec_StartTasks.l0 k (x4 ++ [wrap64 (x6 + 1)]) (wrap64 (x6 + 1)) x270000 x270001 x270002 (x270003.set (x6 : Int).toNat (⟨1, wrap64 (((rd_T43 x270003 x6).f1) + 1)⟩ : S43))) else (none)) else (spec_StartTasks.l0 k x4 (wrap64 (x6 + 1)) x270000 x270001 x270002 x270003)) else (none)) else (none))) else (spec_StartTasks.l0 k x4 (wrap64 (x6 + 1)) x270000 x270001 x270002 x270003))) else (spec_StartTasks.l0 k x4 (wrap64 (x6 + 1)) x270000 x270001 x270002 x270003)) else (none)) else (none)) else (some (x270000, x270001, x270002, x270003, x4))
def spec_StartTasks.f (k : Nat) (l0_0 : List (S39)) (l0_1 : List Int) (a0_2 : Int) (l0_3 : List (S43)) : Option ((List (S39)) × List Int × Int × (List (S43)) × List Int) := (some (([] : List Int) : List Int)).bind fun y255 => ((spec_l24Ok.f k l0_0 l0_1 a0_2 l0_3).bind fun t258 => (if t258 = true then ((spec_l24Copy.f k l0_0 l0_1 a0_2 l0_3).bind fun bt259 => (spec_StartTasks.l0 k y255 0 bt259.1 bt259.2.1 bt259.2.2.1 bt259.2.2.2)) else (some (([] : List (S39)), ([] : List Int), 0, ([] : List (S43)), y255))))
theorem spec_StartTasks.mono_l : ∀ k, (∀ y0 y1 y2 y3 y4 y5, LeO (spec_StartTasks.l0 k y0 y1 y2 y3 y4 y5) (spec_StartTasks.l0 (k + 1) y0 y1 y2 y3 y4 y5))
 | 0 => fun _ _ _ _ _ _ r h => by simp [spec_StartTasks.l0] at h
 | k + 1 => by
  have ih0 := spec_StartTasks.mono_l k
  ·intro y0 y1 y2 y3 y4 y5
   unfold spec_StartTasks.l0
   repeat' first
   | (with_reducible exact ih0 _ _ _ _ _ _)
   | (with_reducible exact spec_l24Copy.mono _ _ _ _ _)
   | (with_reducible exact spec_l24Free.mono _ _ _ _ _ _)
   | (with_reducible exact spec_l24Ok.mono _ _ _ _ _)
   | (with_reducible exact spec_l24Running.mono _ _ _ _ _ _)
   | (with_reducible exact LeO.refl _)
   | (with_reducible exact LeO.none _)
   | (with_reducible refine LeO.ite ?_ ?_)
   | (with_reducible refine LeO.bind ?_ (fun _ => ?_))
   | exact ih0 _ _ _ _ _ _
   | exact spec_l24Copy.mono _ _ _ _ _
   | exact spec_l24Free.mono _ _ _ _ _ _
   | exact spec_l24Ok.mono _ _ _ _ _
   | exact spec_l24Running.mono _ _ _ _ _ _
   | exact LeO.none _
   | refine LeO.ite ?_ ?_
   | refine LeO.bind ?_ (fun _ => ?_)
theorem spec_StartTasks.mono : ∀ a0 a1 a2 a3 k, LeO (spec_StartTasks.f k a0 a1 a2 a3) (spec_StartTasks.f (k + 1) a0 a1 a2 a3) := by
 intro a0 a1 a2 a3 k
 have ih0 := spec_StartTasks.mono_l k
 unfold spec_StartTasks.f
 repeat' first
   | (with_reducible exact ih0 _ _ _ _ _ _)
   | (with_reducible exact spec_l24Copy.mono _ _ _ _ _)
   | (with_reducible exact spec_l24Free.mono _ _ _ _ _ _)
   | (with_reducible exact spec_l24Ok.mono _ _ _ _ _)
   | (with_reducible exact spec_l24Running.mono _ _ _ _ _ _)
   | (with_reducible exact LeO.refl _)
   | (with_reducible exact LeO.none _)
   | (with_reducible refine LeO.ite ?_ ?_)
   | (with_reducible refine LeO.bind ?_ (fun _ => ?_))
   | exact ih0 _ _ _ _ _ _
   | exact spec_l24Copy.mono _ _ _ _ _
   | exact spec_l24Free.mono _ _ _ _ _ _
   | exact spec_l24Ok.mono _ _ _ _ _
   | exact spec_l24Running.mono _ _ _ _ _ _
   | exact LeO.none _
   | refine LeO.ite ?_ ?_
   | refine LeO.bind ?_ (fun _ => ?_)
def spec_StartTasks.T9 : Bool × List (List Nat × List Nat) := (true, [([], []), ([0], [0]), ([], []), ([1, 2], [1, 2]), ([3], [3]), ([4], [4]), ([5], [5]), ([6], [6]), ([7], [7]), ([7], [7]), ([8, 9, 7, 7], [7, 8, 9]), ([7, 10], [7, 10]), ([11, 10], [11]), ([12], [12]), ([12], [12]), ([13, 14, 12, 12], [12, 13, 14]), ([12], [12]), ([16, 12], [12, 16]), ([17, 12], [12, 17]), ([12], [12]), ([19, 12], [12, 19]), ([18, 20, 12], [12, 18, 20]), ([21, 12], [12, 21]), ([15, 22, 12], [12, 15, 22]), ([12, 23], [12, 23])])
def spec_StartTasks.B9 : List Nat := [0, 1, 0, 7, 15, 31, 63, 127, 255, 255, 1023, 2047, 4095, 8191, 8191, 32767, 8191, 73727, 204799, 8191, 532479, 2039807, 4136959, 8388607, 16777215]
theorem spec_StartTasks.tab9 : rtab .any (opsOf Try.f41 9) = spec_StartTasks.T9 := by kernel_rfl
theorem spec_StartTasks.bits9 : waitsOk spec_StartTasks.T9.2 spec_StartTasks.B9 = true := by kernel_rfl
def spec_StartTasks.T10 : Bool × List (List Nat × List Nat) := (true, [([], []), ([0], [0]), ([], []), ([], []), ([3], [3]), ([], []), ([4, 5], [4, 5]), ([6], [6]), ([7], [7]), ([8], [8]), ([9], [9]), ([1, 2, 0, 1, 2, 3, 4, 5, 6, 7, 8, 9, 10], [1, 2]), ([11, 10, 0, 1, 2, 3, 4, 5, 6, 7, 8, 9, 10], [10, 11])])
def spec_StartTasks.B10 : List Nat := [0, 1, 0, 0, 8, 0, 56, 120, 248, 504, 1016, 2047, 4095]
theorem spec_StartTasks.tab10 : rtab .any (opsOf Try.f41 10) = spec_StartTasks.T10 := by kernel_rfl
theorem spec_StartTasks.bits10 : waitsOk spec_StartTasks.T10.2 spec_StartTasks.B10 = true := by kernel_rfl
set_option maxHeartbeats 8000000 in
set_option maxRecDepth 100000 in
theorem spec_StartTasks.calls (k : Nat) (A0_0 : Option Addr) (c0_0 : Nat) (l0_0 : List (S39)) (A0_1 : Option Addr) (c0_1 : Nat) (l0_1 : List Int) (a0_2 : Int) (A0_3 : Option Addr) (c0_3 : Nat) (l0_3 : List (S43)) (r1 : List (S39)) (r2 : List Int) (r3 : Int) (r4 : List (S43)) (r5 : List Int) (w : World) (hr0_0 : Kd.C k39 w A0_0 l0_0.length l0_0) (hc0_0 : l0_0.length ≤ c0_0) (hr0_1 : Kd.C (Kd.int .i64) w A0_1 l0_1.length l0_1) (hc0_1 : l0_1.length ≤ c0_1) (hr0_3 : Kd.C k43 w A0_3 l0_3.length l0_3) (hc0_3 : l0_3.length ≤ c0_3) (h : spec_StartTasks.f k l0_0 l0_1 a0_2 l0_3 = some (r1, r2, r3, r4, r5)) :
  Calls Try.prog 41 #[.agg #[.slice A0_0 l0_0.length c0_0, .slice A0_1 l0_1.length c0_1, .int .i64 a0_2, .slice A0_3 l0_3.length c0_3]] w fun e w' => ∃ v0_ v1_ v3_ v4_ : Value, e = .returned (.tuple #[.agg #[v0_, v1_, .int .i64 r3, v3_], v4_]) ∧ Kd.S k39 39 w' w.heap.size (fun k_ => some k_ ≠ (v1_ : Value).ownBlock ∧ some k_ ≠ (v4_ : Value).ownBlock) v0_ r1 ∧ Kd.R (Kd.int .i64) 2 w' w.heap.size (fun k_ => some k_ ≠ (v4_ : Value).ownBlock) v1_ r2 ∧ Kd.R k43 43 w' w.heap.size (fun _ => True) v3_ r4 ∧ Kd.R (Kd.int .i64) 2 w' w.heap.size (fun k_ => some k_ ≠ (v1_ : Value).ownBlock) v4_ r5 ∧ Below w.heap.size w w' := by
 have hu31 := Try.underlying31; have hu43 := Try.underlying43; have HR0_0 := Aside0.mk hr0_0; have HC0_0 := Aside0.mk hc0_0; clear hr0_0 hc0_0; have HR0_1 := Aside0.mk hr0_1; have HC0_1 := Aside0.mk hc0_1; clear hr0_1 hc0_1; have HR0_3 := Aside0.mk hr0_3; have HC0_3 := Aside0.mk hc0_3; clear hr0_3 hc0_3
 have HB := Aside0.mk (Below.refl w.heap.size w)
 have H : ((some (([] : List Int) : List Int)).bind fun y255 => ((spec_l24Ok.f k l0_0 l0_1 a0_2 l0_3).bind fun t258 => (if t258 = true then ((spec_l24Copy.f k l0_0 l0_1 a0_2 l0_3).bind fun bt259 => (spec_StartTasks.l0 k y255 0 bt259.1 bt259.2.1 bt259.2.2.1 bt259.2.2.2)) else (some (([] : List (S39)), ([] : List Int), 0, ([] : List (S43)), y255))))) = some (r1, r2, r3, r4, r5) := h
 clear h
 obtain ⟨y255, hy255⟩ : ∃ y_ : List Int, y_ = (([] : List Int)) := ⟨_, rfl⟩
 replace H : ((spec_l24Ok.f k l0_0 l0_1 a0_2 l0_3).bind fun t258 => (if t258 = true then ((spec_l24Copy.f k l0_0 l0_1 a0_2 l0_3).bind fun bt259 => (spec_StartTasks.l0 k y255 0 bt259.1 bt259.2.1 bt259.2.2.1 bt259.2.2.2)) else (some (([] : List (S39)), ([] : List Int), 0, ([] : List (S43)), y255)))) = some (r1, r2, r3, r4, r5) := by first | (rw [hy255]; with_reducible exact H) | (have H2_ := (Option.bind_some _ _).symm.trans H; rw [hy255]; with_reducible exact H2_) | (have H2_ := (Option.bind_some _ _).symm.trans H; with_reducible exact H2_) | with_reducible exact H | (rw [hy255]; exact H) | exact H
 have Ny255 := Aside0.mk hy255; clear hy255; replace H := Option.bind_eq_some_iff.mp H
 obtain ⟨t258, A20, H⟩ := H
 replace H : (if t258 = true then ((spec_l24Copy.f k l0_0 l0_1 a0_2 l0_3).bind fun bt259 => (spec_StartTasks.l0 k y255 0 bt259.1 bt259.2.1 bt259.2.2.1 bt259.2.2.2)) else (some (([] : List (S39)), ([] : List Int), 0, ([] : List (S43)), y255))) = some (r1, r2, r3, r4, r5) := H
 have A2 := Aside0.mk A20; clear A20
 by_cases c3 : t258 = true
 ·subst c3
  replace H := ifT_ H; replace H := Option.bind_eq_some_iff.mp H
  obtain ⟨⟨t259, t262, t265, t266⟩, A40, H⟩ := H
  replace H : (spec_StartTasks.l0 k y255 0 t259 t262 t265 t266) = some (r1, r2, r3, r4, r5) := H
  have A4 := Aside0.mk A40; clear A40; have H' := Aside0.mk H; clear H
  go_enter Try.func41, Try.ntmps41
  go_wp2_with (first | ((with_reducible refine gate_dst (N := 1) rfl ?_); refine box_event ?hg (N := 1) ?hd (cs := #[.slice A0_0 l0_0.length c0_0, .slice A0_1 l0_1.length c0_1, .int .i64 a0_2, .slice A0_3 l0_3.length c0_3]) (t := 31) ?hr ?_; (case hd => rfl); (case hg => rfl); (case hr => first | (go_simp; done) | (go_simp; rfl)); intro gb253 hg w5 hbox hb; have BK253 := Aside0.mk (hbox); have GW253 := gE_ HB hg; have GE253 := gE_ HB hg; replace HB := bS_ HB hb; clear hb hbox hg) | ((with_reducible refine gate_dst (N := 2) rfl ?_); refine box_event ?hg (N := 2) ?hd (cs := #[.slice none 0 0, .slice none 0 0, .int .i64 0, .slice none 0 0]) (t := 31) ?hr ?_; (case hd => rfl); (case hg => rfl); (case hr => first | (go_simp; done) | (go_simp; rfl)); intro gb254 hg w6 hbox hb; have BK254 := Aside0.mk (hbox); have GW254 := gE_ HB hg; have GE254 := gE_ HB hg; replace HB := bS_ HB hb; have NB253_254 := nL_ BK253 hg; have NB254_253 := nG_ BK253 hg; replace BK253 := bB_ BK253 hb; clear hb hbox hg) | ((with_reducible refine gate_dst (N := 8) rfl ?_); refine Kd.R_lit (Kd.int .i64) _ 2 ?hg (N := 8) ?hd (xs := ([] : List Int)) (inner := []) (ok := fun _ => True) (okp := fun _ => True) ?hr ?hp (fun _ hk => hk) trivial (Below.refl _ _) (Nat.le_refl _) (by simp) ?_; (case hd => rfl); (case hg => rfl); (case hr => first | (go_simp; done) | (go_simp; rfl)); (case hp => exact (Reps.none _ _)); intro v256 w7 ho8 hb hg_ hnew_; clear hg_ hnew_; (first | rw [← Ny255.out] at ho8 | (simp only [Int.reduceToNat] at ho8; rw [← Ny255.out] at ho8)); have HO257 := rL_ ho8 HB; replace BK253 := bB_ BK253 hb; replace BK254 := bB_ BK254 hb; replace HB := bS_ HB hb; clear hb ho8; have hnb9 := NB253_254.out; have hnc9 := NB254_253.out; obtain ⟨hcz10_0, hcz10_1, hcz10_2, hcz10_3, hfz10_0, hfz10_1, hfz10_2, hfz10_3⟩ := cf4_ BK253) | ((with_reducible refine gate_callee (f := 58) rfl ?_); refine gL_ (some 10) Try.func58 #[.agg #[.slice A0_0 l0_0.length c0_0, .slice A0_1 l0_1.length c0_1, .int .i64 a0_2, .slice A0_3 l0_3.length c0_3]] ?_; (with_reducible refine (spec_l24Ok.calls k _ _ l0_0 _ _ l0_1 a0_2 _ _ l0_3 true _ ?side1 ?side2 ?side3 ?side4 ?side5 ?side6 A2.out).mono ?_); (case side1 => exact cB_ HR0_0 HB); (case side2 => exact HC0_0.out); (case side3 => exact cB_ HR0_1 HB); (case side4 => exact HC0_1.out); (case side5 => exact cB_ HR0_3 HB); (case side6 => exact HC0_3.out); rintro e w11 ⟨rfl, hb⟩; refine ⟨_, rfl, ?_⟩; replace HO257 := rB_ HO257 hb; replace BK253 := bB_ BK253 hb; replace BK254 := bB_ BK254 hb; replace HB := bS_ HB hb; (try clear hb); (try clear hk); obtain ⟨hcz12_0, hcz12_1, hcz12_2, hcz12_3, hfz12_0, hfz12_1, hfz12_2, hfz12_3⟩ := cf4_ BK253) | ((with_reducible refine gate_callee (f := 59) rfl ?_); refine gL_ (some 15) Try.func59 #[.agg #[.slice A0_0 l0_0.length c0_0, .slice A0_1 l0_1.length c0_1, .int .i64 a0_2, .slice A0_3 l0_3.length c0_3]] ?_; (with_reducible refine (spec_l24Copy.calls k _ _ l0_0 _ _ l0_1 a0_2 _ _ l0_3 t259 t262 t265 t266 _ ?side1 ?side2 ?side3 ?side4 ?side5 ?side6 A4.out).mono ?_); (case side1 => exact cB_ HR0_0 HB); (case side2 => exact HC0_0.out); (case side3 => exact cB_ HR0_1 HB); (case side4 => exact HC0_1.out); (case side5 => exact cB_ HR0_3 HB); (case side6 => exact HC0_3.out); rintro e w13 ⟨v260, v263, v267, rfl, ho0, ho1, ho2, hb⟩; refine ⟨_, rfl, ?_⟩; have HO261 := sL_ (Kd.S_new' ho0 (rLt_ HO257)) HB; have HO264 := rL_ (rN_ ho1 HO257) HB; replace HO257 := rE_ HO257 ho1 hb; have HO268 := rL_ ho2 HB; replace BK253 := bB_ BK253 hb; replace BK254 := bB_ BK254 hb; replace HB := bS_ HB hb; (try clear hb); (try clear hk); (try clear ho0); (try clear ho1); (try clear ho2)) | ((with_reducible refine gate_dst (N := 5) rfl ?_); refine box_event ?hg (N := 5) ?hd (cs := #[.slice none 0 0, .slice none 0 0, .int .i64 0, .slice none 0 0]) (t := 31) ?hr ?_; (case hd => rfl); (case hg => rfl); (case hr => first | (go_simp; done) | (go_simp; rfl)); intro gb269 hg w14 hbox hb; replace HO257 := rB_ HO257 hb; replace HO261 := sB_ HO261 hb; replace HO264 := rB_ HO264 hb; replace HO268 := rB_ HO268 hb; have BK269 := Aside0.mk (hbox); have GW269 := gE_ HB hg; have GE269 := gE_ HB hg; replace HB := bS_ HB hb; have NB253_269 := nL_ BK253 hg; have NB269_253 := nG_ BK253 hg; replace BK253 := bB_ BK253 hb; have NB254_269 := nL_ BK254 hg; have NB269_254 := nG_ BK254 hg; replace BK254 := bB_ BK254 hb; clear hb hbox hg; obtain ⟨Ao15, co15, eo15⟩ := Kd.S_slice HO261.out; subst eo15; have hnb16 := NB269_253.out; have hnc16 := NB253_269.out; have hnb17 := NB269_254.out; have hnc17 := NB254_269.out; obtain ⟨hcz18_0, hcz18_1, hcz18_2, hcz18_3, hfz18_0, hfz18_1, hfz18_2, hfz18_3⟩ := cf4_ BK269; obtain ⟨Ao19, co19, eo19⟩ := Kd.R_slice HO264.out; subst eo19; obtain ⟨Ao20, co20, eo20⟩ := Kd.R_slice HO268.out; subst eo20))
  go_loopg [4, 6] k (fun kq v4 v6 w' => ∃ (x4_1 : List Int) (x6_1 : Int) (x270003_1 : List (S43)) (u270003 : Value), v6 = .int .i64 x6_1 ∧ Aside0 (spec_StartTasks.l0 kq x4_1 x6_1 t259 t262 t265 x270003_1 = some (r1, r2, r3, r4, r5)) ∧ Aside0 (kq ≤ k) ∧ Aside0 (Kd.R (Kd.int .i64) 2 w' w.heap.size (fun k_ => some k_ ≠ ((.slice Ao19 t262.length co19) : Value).ownBlock) v4 x4_1) ∧ Aside0 (Kd.S k39 39 w' w.heap.size (fun k_ => some k_ ≠ (v4 : Value).ownBlock ∧ some k_ ≠ ((.slice Ao19 t262.length co19) : Value).ownBlock) (.slice Ao15 t259.length co15) t259) ∧ Aside0 (Kd.R (Kd.int .i64) 2 w' w.heap.size (fun k_ => some k_ ≠ (v4 : Value).ownBlock) (.slice Ao19 t262.length co19) t262) ∧ Aside0 (Kd.R k43 43 w' w.heap.size (fun _ => True) u270003 x270003_1) ∧ Aside0 (w'.heap[gb253]? = some (.cells #[(.slice A0_0 l0_0.length c0_0), (.slice A0_1 l0_1.length c0_1), .int .i64 a0_2, (.slice A0_3 l0_3.length c0_3)] 31 (0, 0))) ∧ Aside0 (w'.heap[gb254]? = some (.cells #[(.slice none 0 0), (.slice none 0 0), .int .i64 0, (.slice none 0 0)] 31 (0, 0))) ∧ Aside0 (w'.heap[gb269]? = some (.cells #[(.slice Ao15 t259.length co15), (.slice Ao19 t262.length co19), .int .i64 t265, u270003] 31 (0, 0))) ∧ Aside0 (Below w.heap.size w w'))
  case atStart => exact ⟨(y255), (0), (t266), (.slice Ao20 t266.length co20), (by first | rfl | (simp; done) | (simp [*]; done)), H', ⟨Nat.le_refl _⟩, ⟨rFM_ HO257 BK269⟩, ⟨sFM_ HO261 BK269⟩, ⟨rFM_ HO264 BK269⟩, ⟨rFM_ HO268 BK269⟩, ⟨bF_ BK253 NB253_269⟩, ⟨bF_ BK254 NB254_269⟩, ⟨bP_ BK269⟩, ⟨sABelo_10⟩⟩
  case round =>
   clear H'; (try clear c3); (try clear hcz10_0); (try clear hcz10_1); (try clear hcz10_2); (try clear hcz10_3); (try clear hcz12_0); (try clear hcz12_1); (try clear hcz12_2); (try clear hcz12_3); (try clear hcz18_0); (try clear hcz18_1); (try clear hcz18_2); (try clear hcz18_3); (try clear hfz10_0); (try clear hfz10_1); (try clear hfz10_2); (try clear hfz10_3); (try clear hfz12_0); (try clear hfz12_1); (try clear hfz12_2); (try clear hfz12_3); (try clear hfz18_0); (try clear hfz18_1); (try clear hfz18_2); (try clear hfz18_3)
   obtain ⟨x4_1, x6_1, x270003_1, u270003, rfl, HA, HK1, HO_4, HO_270000, HO_270001, HO_270003, BK253, BK254, BK269, HB⟩ := hrel
   cases gk with
   | zero => exact absurd HA.out (by simp [spec_StartTasks.l0])
   | succ k1 =>
    have H := HA.out; clear HA
    simp only [spec_StartTasks.l0] at H
    by_cases c21 : x6_1 < (x270003_1.length : Int)
    ·rw [if_pos c21] at H
     have c21b0 := decide_eq_true c21
     clear c21
     obtain ⟨c22, H⟩ := ifS_ H
     have c22b0 : decide (0 ≤ x6_1) = true := decide_eq_true c22
     clear c22
     obtain ⟨c23, H⟩ := ifS_ H
     have c23b0 : decide (x6_1 < (t259.length : Int)) = true := decide_eq_true c23
     clear c23
     by_cases c24 : ((rd_T43 x270003_1 x6_1).f0) = 0
     ·rw [if_pos c24] at H
      have c24b0 := beq_iff_eq.mpr c24
      have c24b1 := bne_eq_false_iff_eq.mpr c24
      clear c24; replace H := Option.bind_eq_some_iff.mp H
      obtain ⟨t272, A250, H⟩ := H
      replace H : (if t272 = true then ((spec_l24Running.f k1 t259 t262 t265 x270003_1 ((rd_T39 t259 x6_1).f1)).bind fun t273 => (if 0 ≤ (wrap64 (((rd_T39 t259 x6_1).f1) - 1)) then (if (wrap64 (((rd_T39 t259 x6_1).f1) - 1)) < (t262.length : Int) then (if t273 < (rd t262 (wrap64 (((rd_T39 t259 x6_1).f1) - 1))) then (if x4_1.length < 17592186044416 then (spec_StartTasks.l0 k1 (x4_1 ++ [wrap64 (x6_1 + 1)]) (wrap64 (x6_1 + 1)) t259 t262 t265 (x270003_1.set (x6_1 : Int).toNat (⟨1, wrap64 (((rd_T43 x270003_1 x6_1).f1) + 1)⟩ : S43))) else (none)) else (spec_StartTasks.l0 k1 x4_1 (wrap64 (x6_1 + 1)) t259 t262 t265 x270003_1)) else (none)) else (none))) else (spec_StartTasks.l0 k1 x4_1 (wrap64 (x6_1 + 1)) t259 t262 t265 x270003_1)) = some (r1, r2, r3, r4, r5) := H
      have A25 := Aside0.mk A250; clear A250
      by_cases c26 : t272 = true
      ·subst c26
       replace H := ifT_ H; replace H := Option.bind_eq_some_iff.mp H
       obtain ⟨t273, A270, H⟩ := H
       replace H : (if 0 ≤ (wrap64 (((rd_T39 t259 x6_1).f1) - 1)) then (if (wrap64 (((rd_T39 t259 x6_1).f1) - 1)) < (t262.length : Int) then (if t273 < (rd t262 (wrap64 (((rd_T39 t259 x6_1).f1) - 1))) then (if x4_1.length < 17592186044416 then (spec_StartTasks.l0 k1 (x4_1 ++ [wrap64 (x6_1 + 1)]) (wrap64 (x6_1 + 1)) t259 t262 t265 (x270003_1.set (x6_1 : Int).toNat (⟨1, wrap64 (((rd_T43 x270003_1 x6_1).f1) + 1)⟩ : S43))) else (none)) else (spec_StartTasks.l0 k1 x4_1 (wrap64 (x6_1 + 1)) t259 t262 t265 x270003_1)) else (none)) else (none)) = some (r1, r2, r3, r4, r5) := H
       have A27 := Aside0.mk A270; clear A270
       obtain ⟨ji28, hji28⟩ : ∃ j_ : Int, (wrap64 (((rd_T39 t259 x6_1).f1) - 1)) = j_ := ⟨_, rfl⟩
       replace H : (if 0 ≤ (ji28) then (if (ji28) < (t262.length : Int) then (if t273 < (rd t262 (ji28)) then (if x4_1.length < 17592186044416 then (spec_StartTasks.l0 k1 (x4_1 ++ [wrap64 (x6_1 + 1)]) (wrap64 (x6_1 + 1)) t259 t262 t265 (x270003_1.set (x6_1 : Int).toNat (⟨1, wrap64 (((rd_T43 x270003_1 x6_1).f1) + 1)⟩ : S43))) else (none)) else (spec_StartTasks.l0 k1 x4_1 (wrap64 (x6_1 + 1)) t259 t262 t265 x270003_1)) else (none)) else (none)) = some (r1, r2, r3, r4, r5) := by first | (rw [hji28] at H; exact H) | (simp only [hji28] at H ⊢; exact H)
       (try rw [hji28] at A25)
       (try rw [hji28] at A27)
       have hji28w : (IntKind.i64.wrap (((rd_T39 t259 x6_1).f1) - 1)) = ji28 := (i64_w _).trans hji28
       obtain ⟨c29, H⟩ := ifS_ H
       have c29b0 : decide (0 ≤ (ji28)) = true := decide_eq_true c29
       clear c29
       obtain ⟨c30, H⟩ := ifS_ H
       have c30b0 : decide ((ji28) < (t262.length : Int)) = true := decide_eq_true c30
       clear c30
       by_cases c31 : t273 < (rd t262 (ji28))
       ·rw [if_pos c31] at H
        have c31b0 := decide_eq_true c31
        clear c31
        obtain ⟨y276, hy276⟩ : ∃ y_ : List (S43), y_ = (x270003_1.set (x6_1 : Int).toNat (⟨1, wrap64 (((rd_T43 x270003_1 x6_1).f1) + 1)⟩ : S43)) := ⟨_, rfl⟩
        replace H : (if x4_1.length < 17592186044416 then (spec_StartTasks.l0 k1 (x4_1 ++ [wrap64 (x6_1 + 1)]) (wrap64 (x6_1 + 1)) t259 t262 t265 y276) else (none)) = some (r1, r2, r3, r4, r5) := by first | (rw [hy276]; with_reducible exact H) | (have H2_ := (Option.bind_some _ _).symm.trans H; rw [hy276]; with_reducible exact H2_) | (have H2_ := (Option.bind_some _ _).symm.trans H; with_reducible exact H2_) | with_reducible exact H | (rw [hy276]; exact H) | exact H
        have Ny276 := Aside0.mk hy276; clear hy276
        obtain ⟨c33, H⟩ := ifS_ H
        have LMc33 := Aside0.mk c33; clear c33
        obtain ⟨y277, hy277⟩ : ∃ y_ : List Int, y_ = (x4_1 ++ [wrap64 (x6_1 + 1)]) := ⟨_, rfl⟩
        replace H : (spec_StartTasks.l0 k1 y277 (wrap64 (x6_1 + 1)) t259 t262 t265 y276) = some (r1, r2, r3, r4, r5) := by first | (rw [hy277]; with_reducible exact H) | (have H2_ := (Option.bind_some _ _).symm.trans H; rw [hy277]; with_reducible exact H2_) | (have H2_ := (Option.bind_some _ _).symm.trans H; with_reducible exact H2_) | with_reducible exact H | (rw [hy277]; exact H) | exact H
        have Ny277 := Aside0.mk hy277; clear hy277; have H' := Aside0.mk H; clear H; have hnb34 := NB269_253.out; have hnc34 := NB253_269.out; have hnb35 := NB269_254.out; have hnc35 := NB254_269.out
        obtain ⟨hcz36_0, hcz36_1, hcz36_2, hcz36_3, hfz36_0, hfz36_1, hfz36_2, hfz36_3⟩ := cf4_ BK269
        obtain ⟨Ao37, co37, eo37⟩ := Kd.R_slice HO_270003.out
        subst eo37
        have p270 : 0 ≤ (x6_1 : Int) := dA_
        have q270 : x6_1 < (t259.length : Int) := dA_
        obtain ⟨ad270, A270_0, c270_0, e270, hx270_0, hx270_1, hx270_2, hx270_3, hl270_0, hi270_0⟩ := at_T39 (Kd.S_reads' HO_270000.out).2.2 x6_1 p270 q270
        cases e270
        obtain ⟨ce270, hce270, hMe270, hcc270⟩ := Kd.S_get HO_270000.out z39 x6_1 p270 (by first | exact q270 | exact of_decide_eq_true (by first | (with_reducible assumption) | assumption) | (have e_ := (Kd.S_reads' HO_270000.out).1; omega))
        obtain ⟨ve270_0, rfl, ge270_0⟩ := k39_openM hMe270
        have hv270_0 := hcc270 0 _ rfl
        rw [Nat.add_zero] at hv270_0
        replace hv270_0 := Option.some.inj (hv270_0.symm.trans hx270_0)
        rw [hv270_0] at ge270_0
        have HL270_0 := Aside0.mk (show Kd.R (Kd.int .i64) 2 _ _ _ _ ((rd_T39 t259 x6_1).f0) from ge270_0)
        clear hv270_0 ge270_0 hcc270 hce270; have HR270_0 := Aside0.mk hi270_0; have HC270_0 := Aside0.mk hl270_0; clear hi270_0 hl270_0; replace p270 := eq_true p270; replace q270 := eq_true q270
        try go_wp2
        replace HO_4 := Aside0.mk (Kd.R_drew HO_4.out)
        replace HO_270000 := Aside0.mk (Kd.S_drew HO_270000.out)
        replace HO_270001 := Aside0.mk (Kd.R_drew HO_270001.out)
        replace HO_270003 := Aside0.mk (Kd.R_drew HO_270003.out)
        replace HL270_0 := Aside0.mk (Kd.R_drew HL270_0.out)
        replace BK253 := Aside0.mk (blk_drew BK253.out)
        replace BK254 := Aside0.mk (blk_drew BK254.out)
        replace BK269 := Aside0.mk (blk_drew BK269.out)
        replace HR270_0 := Aside0.mk (Kd.C_drew HR270_0.out)
        replace HB := Aside0.mk (below_drew1 HB.out)
        have p271 : 0 ≤ (x6_1 : Int) := dA_
        have q271 : x6_1 < (x270003_1.length : Int) := dA_
        obtain ⟨ad271, e271, hx271_0, hx271_1⟩ := at_T43 (Kd.R_reads' HO_270003.out).2.2 x6_1 p271 q271
        cases e271
        replace p271 := eq_true p271; replace q271 := eq_true q271
        have p274 : 0 ≤ ((ji28) : Int) := dA_
        have q274 : (ji28) < (t262.length : Int) := dA_
        obtain ⟨ad274, e274, hx274_0⟩ := Kd.at_int (Kd.R_reads' HO_270001.out).2.2 (ji28) p274 q274
        cases e274
        replace p274 := eq_true p274; replace q274 := eq_true q274
        refine start_ (n := 25) (S := fun w' => w'.cell? ⟨gb269, 0, none⟩ = some (.slice (some ad270) t259.length co15) ∧ w'.cell? ⟨gb269, 1, none⟩ = some (.slice (some ad274) t262.length co19) ∧ w'.cell? ⟨gb269, 2, none⟩ = some (.int .i64 t265) ∧ w'.cell? ⟨gb269, 3, none⟩ = some (.slice (some ad271) x270003_1.length co37) ∧ w'.cell? (ad271.add ((x6_1).toNat * 2)) = some (.int .i64 ((rd_T43 x270003_1 x6_1).f0)) ∧ w'.cell? ⟨(ad271.add ((x6_1).toNat * 2)).block, (ad271.add ((x6_1).toNat * 2)).off + 1, none⟩ = some (.int .i64 ((rd_T43 x270003_1 x6_1).f1)) ∧ w'.cell? (ad274.add ((ji28)).toNat) = some (.int .i64 (rd t262 (ji28)))) (ds := []) #[false, false, false, false, false, false, false, false, false, false, false, false, false, false, false, false, false, false, false, false, false, false, false, false, false] (by kernel_rfl) rfl rfl ⟨(blk_cell BK269.out 0).trans rfl, (blk_cell BK269.out 1).trans rfl, (blk_cell BK269.out 2).trans rfl, (blk_cell BK269.out 3).trans rfl, hx271_0, hx271_1, hx274_0⟩ (fun hHeld => ?_); refine with_tabW spec_StartTasks.tab9 spec_StartTasks.bits9 (fun HT_ HW_ => ?_)
        generalize wr.drew = w38 at HO_4 HO_270000 HO_270001 HO_270003 HL270_0 BK253 BK254 BK269 HR270_0 HB hx271_0 hx271_1 hx274_0 hHeld ⊢
        refine pT_ 0 (some 30) #[true, false, false, false, false, false, false, false, false, false, false, false, false, false, false, false, false, false, false, false, false, false, false, false, false] HT_ ?_
        refine pT_ 2 (some 32) #[true, false, true, false, false, false, false, false, false, false, false, false, false, false, false, false, false, false, false, false, false, false, false, false, false] HT_ ?_
        refine tT_ 1 (some 31) #[true, true, true, false, false, false, false, false, false, false, false, false, false, false, false, false, false, false, false, false, false, false, false, false, false] HT_ HW_ hHeld ?_ (hy := by rintro w' ⟨s0, s1, s2, s3, s4, s5, s6⟩; go_simp; with_reducible rfl)
        refine pT_ 3 (some 33) #[true, true, true, true, false, false, false, false, false, false, false, false, false, false, false, false, false, false, false, false, false, false, false, false, false] HT_ ?_
        refine pT_ 4 (some 34) #[true, true, true, true, true, false, false, false, false, false, false, false, false, false, false, false, false, false, false, false, false, false, false, false, false] HT_ ?_
        refine tT_ 5 (some 35) #[true, true, true, true, true, true, false, false, false, false, false, false, false, false, false, false, false, false, false, false, false, false, false, false, false] HT_ HW_ hHeld ?_ (hy := by rintro w' ⟨s0, s1, s2, s3, s4, s5, s6⟩; go_simp; with_reducible rfl)
        refine pT_ 6 (some 36) #[true, true, true, true, true, true, true, false, false, false, false, false, false, false, false, false, false, false, false, false, false, false, false, false, false] HT_ ?_
        refine pT_ 7 (some 37) #[true, true, true, true, true, true, true, true, false, false, false, false, false, false, false, false, false, false, false, false, false, false, false, false, false] HT_ ?_
        refine pT_ 9 (some 39) #[true, true, true, true, true, true, true, true, false, true, false, false, false, false, false, false, false, false, false, false, false, false, false, false, false] HT_ ?_
        refine tT_ 8 (some 38) #[true, true, true, true, true, true, true, true, true, true, false, false, false, false, false, false, false, false, false, false, false, false, false, false, false] HT_ HW_ hHeld ?_ (hy := by rintro w' ⟨s0, s1, s2, s3, s4, s5, s6⟩; go_simp; with_reducible rfl)
        refine one_ (i := 10) (N := some 40) #[true, true, true, true, true, true, true, true, true, true, true, false, false, false, false, false, false, false, false, false, false, false, false, false, false] rfl rfl (one_of HT_.out (by kernel_rfl)) (by decide) (fun K hK => ?_)
        refine goes_ Try.func74 (by kernel_rfl) rfl #[.agg #[.slice (some ad270) t259.length co15, .slice (some ad274) t262.length co19, .int .i64 t265, .slice (some ad271) x270003_1.length co37], .int .i64 x6_1] (by rfl) rfl rfl (by (try simp only [List.map_toArray, List.map_cons, List.map_nil]); first | done | rfl | (simp only [List.length_drop, List.length_take]; rfl)) ?_
        with_reducible refine (spec_l24Free.calls k1 _ _ t259 _ _ t262 t265 _ _ x270003_1 x6_1 true _ ?side1 ?side2 ?side3 ?side4 ?side5 ?side6 A25.out).mono ?_
        (case side1 => exact sD_ HO_270000)
        (case side2 => exact (Kd.S_reads' HO_270000.out).2.1)
        (case side3 => exact rD_ HO_270001)
        (case side4 => exact (Kd.R_reads' HO_270001.out).2.1)
        (case side5 => exact rD_ HO_270003)
        (case side6 => exact (Kd.R_reads' HO_270003.out).2.1)
        rintro e w39 ⟨rfl, hb⟩
        have HS4_ := (hb.cell (World.block_lt_of_cell? _ _ (hHeld.2.2.2.2.1))).trans (hHeld.2.2.2.2.1)
        have HS5_ := (hb.cell (World.block_lt_of_cell? _ _ (hHeld.2.2.2.2.2.1))).trans (hHeld.2.2.2.2.2.1)
        have HS6_ := (hb.cell (World.block_lt_of_cell? _ _ (hHeld.2.2.2.2.2.2))).trans (hHeld.2.2.2.2.2.2)
        refine ⟨_, rfl, ?_⟩
        replace HO_4 := rB_ HO_4 hb; replace HO_270000 := sB_ HO_270000 hb; replace HO_270001 := rB_ HO_270001 hb; replace HO_270003 := rB_ HO_270003 hb; replace HL270_0 := rB_ HL270_0 hb; replace BK253 := bB_ BK253 hb; replace BK254 := bB_ BK254 hb; replace BK269 := bB_ BK269 hb
        replace HR270_0 := Aside0.mk (Kd.C_below (by repeat (first | (with_reducible exact HR270_0.out) | (with_reducible refine Kd.C_alloc ?_ _) | (with_reducible refine Kd.C_drewN ?_ _) | (with_reducible refine Kd.C_drew ?_) | exact HR270_0.out)) hb)
        replace HB := bS_ HB hb; (try clear hb); (try clear hk)
        refine hK.out _ _ ⟨(blk_cell BK269.out 0).trans rfl, (blk_cell BK269.out 1).trans rfl, (blk_cell BK269.out 2).trans rfl, (blk_cell BK269.out 3).trans rfl, HS4_, HS5_, HS6_⟩ (fun hHeld => ?_)
        clear hK K
        refine nS_ (some 40) ?_
        refine pT_ 11 (some 41) #[true, true, true, true, true, true, true, true, true, true, true, true, false, false, false, false, false, false, false, false, false, false, false, false, false] HT_ ?_
        refine pT_ 12 (some 42) #[true, true, true, true, true, true, true, true, true, true, true, true, true, false, false, false, false, false, false, false, false, false, false, false, false] HT_ ?_
        refine pT_ 14 (some 44) #[true, true, true, true, true, true, true, true, true, true, true, true, true, false, true, false, false, false, false, false, false, false, false, false, false] HT_ ?_
        refine pT_ 16 (some 46) #[true, true, true, true, true, true, true, true, true, true, true, true, true, false, true, false, true, false, false, false, false, false, false, false, false] HT_ ?_
        refine pT_ 17 (some 47) #[true, true, true, true, true, true, true, true, true, true, true, true, true, false, true, false, true, true, false, false, false, false, false, false, false] HT_ ?_
        refine pT_ 19 (some 49) #[true, true, true, true, true, true, true, true, true, true, true, true, true, false, true, false, true, true, false, true, false, false, false, false, false] HT_ ?_
        refine pT_ 20 (some 50) #[true, true, true, true, true, true, true, true, true, true, true, true, true, false, true, false, true, true, false, true, true, false, false, false, false] HT_ ?_
        refine tT_ 13 (some 43) #[true, true, true, true, true, true, true, true, true, true, true, true, true, true, true, false, true, true, false, true, true, false, false, false, false] HT_ HW_ hHeld ?_ (hy := by rintro w' ⟨s0, s1, s2, s3, s4, s5, s6⟩; go_simp; with_reducible rfl)
        refine tT_ 18 (some 48) #[true, true, true, true, true, true, true, true, true, true, true, true, true, true, true, false, true, true, true, true, true, false, false, false, false] HT_ HW_ hHeld ?_ (hy := by rintro w' ⟨s0, s1, s2, s3, s4, s5, s6⟩; go_simp; with_reducible rfl)
        refine pT_ 21 (some 51) #[true, true, true, true, true, true, true, true, true, true, true, true, true, true, true, false, true, true, true, true, true, true, false, false, false] HT_ ?_
        refine tT_ 22 (some 52) #[true, true, true, true, true, true, true, true, true, true, true, true, true, true, true, false, true, true, true, true, true, true, true, false, false] HT_ HW_ hHeld ?_ (hy := by rintro w' ⟨s0, s1, s2, s3, s4, s5, s6⟩; go_simp; with_reducible rfl)
        refine one_ (i := 15) (N := some 45) #[true, true, true, true, true, true, true, true, true, true, true, true, true, true, true, true, true, true, true, true, true, true, true, false, false] rfl rfl (one_of HT_.out (by kernel_rfl)) (by decide) (fun K hK => ?_)
        refine goes_ Try.func75 (by kernel_rfl) rfl #[.agg #[.slice (some ad270) t259.length co15, .slice (some ad274) t262.length co19, .int .i64 t265, .slice (some ad271) x270003_1.length co37], .int .i64 ((rd_T39 t259 x6_1).f1)] (by rfl) rfl rfl (by (try simp only [List.map_toArray, List.map_cons, List.map_nil]); first | done | rfl | (simp only [List.length_drop, List.length_take]; rfl)) ?_
        with_reducible refine (spec_l24Running.calls k1 _ _ t259 _ _ t262 t265 _ _ x270003_1 ((rd_T39 t259 x6_1).f1) t273 _ ?side1 ?side2 ?side3 ?side4 ?side5 ?side6 A27.out).mono ?_
        (case side1 => exact sD_ HO_270000)
        (case side2 => exact (Kd.S_reads' HO_270000.out).2.1)
        (case side3 => exact rD_ HO_270001)
        (case side4 => exact (Kd.R_reads' HO_270001.out).2.1)
        (case side5 => exact rD_ HO_270003)
        (case side6 => exact (Kd.R_reads' HO_270003.out).2.1)
        rintro e w40 ⟨rfl, hb⟩
        have HS4_ := (hb.cell (World.block_lt_of_cell? _ _ (hHeld.2.2.2.2.1))).trans (hHeld.2.2.2.2.1)
        have HS5_ := (hb.cell (World.block_lt_of_cell? _ _ (hHeld.2.2.2.2.2.1))).trans (hHeld.2.2.2.2.2.1)
        have HS6_ := (hb.cell (World.block_lt_of_cell? _ _ (hHeld.2.2.2.2.2.2))).trans (hHeld.2.2.2.2.2.2)
        refine ⟨_, rfl, ?_⟩
        replace HO_4 := rB_ HO_4 hb; replace HO_270000 := sB_ HO_270000 hb; replace HO_270001 := rB_ HO_270001 hb; replace HO_270003 := rB_ HO_270003 hb; replace HL270_0 := rB_ HL270_0 hb; replace BK253 := bB_ BK253 hb; replace BK254 := bB_ BK254 hb; replace BK269 := bB_ BK269 hb
        replace HR270_0 := Aside0.mk (Kd.C_below (by repeat (first | (with_reducible exact HR270_0.out) | (with_reducible refine Kd.C_alloc ?_ _) | (with_reducible refine Kd.C_drewN ?_ _) | (with_reducible refine Kd.C_drew ?_) | exact HR270_0.out)) hb)
        replace HB := bS_ HB hb; (try clear hb); (try clear hk)
        refine hK.out _ _ ⟨(blk_cell BK269.out 0).trans rfl, (blk_cell BK269.out 1).trans rfl, (blk_cell BK269.out 2).trans rfl, (blk_cell BK269.out 3).trans rfl, HS4_, HS5_, HS6_⟩ (fun hHeld => ?_)
        clear hK K
        refine nS_ (some 45) ?_
        refine pT_ 23 (some 53) #[true, true, true, true, true, true, true, true, true, true, true, true, true, true, true, true, true, true, true, true, true, true, true, true, false] HT_ ?_
        refine pT_ 24 (some 54) #[true, true, true, true, true, true, true, true, true, true, true, true, true, true, true, true, true, true, true, true, true, true, true, true, true] HT_ ?_
        refine done_ (done_of HT_.out (by kernel_rfl)) ?_
        try go_wp2
        replace HO_4 := Aside0.mk (Kd.R_drew HO_4.out)
        replace HO_270000 := Aside0.mk (Kd.S_drew HO_270000.out)
        replace HO_270001 := Aside0.mk (Kd.R_drew HO_270001.out)
        replace HO_270003 := Aside0.mk (Kd.R_drew HO_270003.out)
        replace HL270_0 := Aside0.mk (Kd.R_drew HL270_0.out)
        replace BK253 := Aside0.mk (blk_drew BK253.out)
        replace BK254 := Aside0.mk (blk_drew BK254.out)
        replace BK269 := Aside0.mk (blk_drew BK269.out)
        replace HR270_0 := Aside0.mk (Kd.C_drew HR270_0.out)
        replace HB := Aside0.mk (below_drew1 HB.out)
        have p275 : 0 ≤ (x6_1 : Int) := dA_
        have q275 : x6_1 < (x270003_1.length : Int) := dA_
        obtain ⟨ad275, e275, hx275_0, hx275_1⟩ := at_T43 (Kd.R_reads' HO_270003.out).2.2 x6_1 p275 q275
        obtain rfl : ad271 = ad275 := (by injection e275)
        replace p275 := eq_true p275; replace q275 := eq_true q275
        have p32 : 0 ≤ (x6_1 : Int) := dA_
        have q32 : (x6_1 : Int) < ((x270003_1.length : Int) : Int) := dA_
        obtain ⟨go32, co32, eo32, gb32, gl32, cl32, HG32⟩ := Kd.R_form HO_270003.out (by omega)
        (first | cases eo32 | (injection eo32 with ea_ en_ ec_; (first | subst ea_ | (injection ea_ with ea_; subst ea_)); subst ec_; clear en_))
        have GB32 := Aside0.mk gb32; have GG32 := Aside0.mk HG32; clear gb32 gl32 HG32
        (first | simp only [add_plain] at hx271_0 | skip)
        (first | simp only [add_plain] at hx271_1 | skip)
        (first | simp only [add_plain] at hx275_0 | skip)
        (first | simp only [add_plain] at hx275_1 | skip)
        obtain ⟨ce32, hcl32, hM32, hcc32, hfr32⟩ := Kd.R_elem HO_270003.out z43 (x6_1 : Int) p32 q32
        obtain rfl := k43_openM hM32
        have hx32_0 : World.cell? _ ⟨go32, (x6_1 : Int).toNat * 2, none⟩ = some (.int .i64 ((rd_T43 x270003_1 x6_1).f0)) := hcc32 0 _ rfl
        have hx32_1 : World.cell? _ ⟨go32, (x6_1 : Int).toNat * 2 + 1, none⟩ = some (.int .i64 ((rd_T43 x270003_1 x6_1).f1)) := hcc32 1 _ rfl
        have hf32_0 : World.frozen? _ ⟨go32, (x6_1 : Int).toNat * 2, none⟩ = false := hfr32 0
        have hf32_1 : World.frozen? _ ⟨go32, (x6_1 : Int).toNat * 2 + 1, none⟩ = false := hfr32 1
        clear hcl32 hcc32 hfr32 hM32; replace p32 := eq_true p32; replace q32 := eq_true q32
        obtain ⟨ce42, hcl42, hM42, hcc42, hfr42⟩ := Kd.R_elem HO_270003.out z43 (x6_1 : Int) dA_ (by have h_ : (x6_1 : Int) < ((x270003_1.length : Int) : Int) := dA_; first | exact h_ | (have e_ := (Kd.R_reads' HO_270003.out).1; omega) | simpa using h_)
        obtain rfl := k43_openM hM42
        have HP42 := (Kd.R_seg HO_270003.out (x6_1 : Int) dA_ (by have h_ : (x6_1 : Int) < ((x270003_1.length : Int) : Int) := dA_; first | exact h_ | (have e_ := (Kd.R_reads' HO_270003.out).1; omega) | simpa using h_) (seg := [.int .i64 1, .int .i64 (wrap64 (((rd_T43 x270003_1 x6_1).f1) + 1))]) (j := 0) hcl42 hcc42 (show 2 ≤ 2 from by decide) (x' := (⟨1, wrap64 (((rd_T43 x270003_1 x6_1).f1) + 1)⟩ : S43)) (k43_mkM _ _ _ (⟨1, wrap64 (((rd_T43 x270003_1 x6_1).f1) + 1)⟩ : S43) ) (fun _ hk => hk)).1
        rw [← Ny276.out] at HP42
        have HQ42 := Aside0.mk HP42; clear hcl42 hcc42 hfr42 hM42 HP42
        refine start_ (n := 13) (S := fun w' => w'.cell? ⟨gb269, 0, none⟩ = some (.slice (some ad270) t259.length co15) ∧ w'.cell? ⟨gb269, 1, none⟩ = some (.slice (some ad274) t262.length co19) ∧ w'.cell? ⟨gb269, 2, none⟩ = some (.int .i64 t265) ∧ w'.cell? ⟨gb269, 3, none⟩ = some (.slice (some ⟨go32, 0, none⟩) x270003_1.length co37) ∧ w'.cell? ⟨go32, ((x6_1).toNat * 2), none⟩ = some (.int .i64 ((rd_T43 x270003_1 x6_1).f0)) ∧ w'.cell? ⟨go32, ((x6_1).toNat * 2) + 1, none⟩ = some (.int .i64 ((rd_T43 x270003_1 x6_1).f1))) (ds := [12]) #[false, false, false, false, false, false, false, false, false, false, false, false, false] (by kernel_rfl) rfl rfl ⟨(blk_cell BK269.out 0).trans rfl, (blk_cell BK269.out 1).trans rfl, (blk_cell BK269.out 2).trans rfl, (blk_cell BK269.out 3).trans rfl, hx275_0, hx275_1⟩ (fun hHeld => ?_); refine with_tabW spec_StartTasks.tab10 spec_StartTasks.bits10 (fun HT_ HW_ => ?_)
        generalize w40.drew = w41 at HO_4 HO_270000 HO_270001 HO_270003 HL270_0 BK253 BK254 BK269 HR270_0 HB GG32 HQ42 hf32_0 hf32_1 hx271_0 hx271_1 hx275_0 hx275_1 hx32_0 hx32_1 hHeld ⊢
        refine pT_ 0 (some 55) #[true, false, false, false, false, false, false, false, false, false, false, false, false] HT_ ?_
        refine pT_ 2 (some 57) #[true, false, true, false, false, false, false, false, false, false, false, false, false] HT_ ?_
        refine pT_ 3 (some 58) #[true, false, true, true, false, false, false, false, false, false, false, false, false] HT_ ?_
        refine pT_ 5 (some 60) #[true, false, true, true, false, true, false, false, false, false, false, false, false] HT_ ?_
        refine tT_ 1 (some 56) #[true, true, true, true, false, true, false, false, false, false, false, false, false] HT_ HW_ hHeld ?_ (hy := by rintro w' ⟨s0, s1, s2, s3, s4, s5⟩; go_simp; with_reducible rfl)
        refine tT_ 4 (some 59) #[true, true, true, true, true, true, false, false, false, false, false, false, false] HT_ HW_ hHeld ?_ (hy := by rintro w' ⟨s0, s1, s2, s3, s4, s5⟩; go_simp; with_reducible rfl)
        refine pT_ 6 (some 61) #[true, true, true, true, true, true, true, false, false, false, false, false, false] HT_ ?_
        refine pT_ 7 (some 62) #[true, true, true, true, true, true, true, true, false, false, false, false, false] HT_ ?_
        refine tT_ 8 (some 63) #[true, true, true, true, true, true, true, true, true, false, false, false, false] HT_ HW_ hHeld ?_ (hy := by rintro w' ⟨s0, s1, s2, s3, s4, s5⟩; go_simp; with_reducible rfl)
        refine pT_ 9 (some 64) #[true, true, true, true, true, true, true, true, true, true, false, false, false] HT_ ?_
        refine pT_ 10 (some 65) #[true, true, true, true, true, true, true, true, true, true, true, false, false] HT_ ?_
        refine pT_ 11 (some 66) #[true, true, true, true, true, true, true, true, true, true, true, true, false] HT_ ?_
        refine last_ (i := 12) (N := none) #[true, true, true, true, true, true, true, true, true, true, true, true, true] rfl rfl (one_of HT_.out (by kernel_rfl)) (by decide) (fun K hK => ?_)
        refine skip_ (w1 := ?_) (by rfl) rfl ?_ ?_
        rotate_left
        ·go_simp
         rfl
        refine hK.out _ _ ?_
        clear hK K
        refine done_ (done_of HT_.out (by kernel_rfl)) ?_
        try go_wp2_with (first | ((with_reducible refine gate_builtin (b := .append) (xs := #[.tmp 67, .tmp 70]) rfl ?_); at_builtin; refine Kd.R_append (Kd.int .i64) (w0 := w) w.heap.size rfl (.tmp 67) (.tmp 70) 25 2 (.int .i64 0) 8 rfl Try.underlying25 info2 rfl (by decide) (by omega) u4 x4_1 (wrap64 (x6_1 + 1)) [.int .i64 (wrap64 (x6_1 + 1))] (fun k_ => some k_ ≠ (.slice (some ad274) t262.length co19 : Value).ownBlock) (fun _ => False) rfl (by first | (go_simp; done) | (go_simp; rfl)) ?aP (fun _ hk => hk.elim) ?aF ?aO ?aB ?aS ?aL ?_; (case aP => exact rfl); (case aB => exact sABelo_10); (case aF => exact (fun k_ hk => Kd.fresh' (Kd.R_lt (by (with_reducible repeat (first | apply Kd.R_alloc | apply Kd.R_drewN | apply Kd.R_drew)); exact (Kd.R_mono (Kd.R_far (p := ⟨go32, (x6_1 : Int).toNat * 2 + 1, none⟩) (Kd.R_far (p := ⟨go32, (x6_1 : Int).toNat * 2, none⟩) (Kd.R_types HO_270001.out GG32.out (by decide)) (fun _ hk => hk.2) (.int .i64 1)) (fun _ hk => hk.2) (.int .i64 (wrap64 (((rd_T43 x270003_1 x6_1).f1) + 1)))) (fun _ h_ => h_.1)))) k_ hk)); (case aO => exact (by (with_reducible repeat (first | apply Kd.R_alloc | apply Kd.R_drewN | apply Kd.R_drew)); exact Kd.R_mono (Kd.R_far (p := ⟨go32, (x6_1 : Int).toNat * 2 + 1, none⟩) (Kd.R_far (p := ⟨go32, (x6_1 : Int).toNat * 2, none⟩) (Kd.R_types HO_4.out GG32.out (by decide)) (fun _ hk => hk.2) (.int .i64 1)) (fun _ hk => hk.2) (.int .i64 (wrap64 (((rd_T43 x270003_1 x6_1).f1) + 1)))) (fun _ hk => hk.1))); (case aS => exact (below_size sABelo_10)); (case aL => have := LMc33.out; omega); intro v278 w43 ho hb hg hat; rw [← Ny277.out] at ho; replace HO_270000 := Aside0.mk (Kd.S_after (ok := (fun k_ => some k_ ≠ (.slice (some ad274) t262.length co19 : Value).ownBlock)) (by (with_reducible repeat (first | apply Kd.S_alloc | apply Kd.S_drewN | apply Kd.S_drew)); exact Kd.S_mono (Kd.S_far (p := ⟨go32, (x6_1 : Int).toNat * 2 + 1, none⟩) (Kd.S_far (p := ⟨go32, (x6_1 : Int).toNat * 2, none⟩) (Kd.S_types HO_270000.out GG32.out (by decide)) (fun _ hk => hk.2) (.int .i64 1)) (fun _ hk => hk.2) (.int .i64 (wrap64 (((rd_T43 x270003_1 x6_1).f1) + 1)))) (fun _ hk => ⟨hk.1.2, hk.1.1⟩)) hg hat); replace HO_270001 := Aside0.mk (Kd.R_after (ok := (fun _ => True)) (by (with_reducible repeat (first | apply Kd.R_alloc | apply Kd.R_drewN | apply Kd.R_drew)); exact Kd.R_mono (Kd.R_far (p := ⟨go32, (x6_1 : Int).toNat * 2 + 1, none⟩) (Kd.R_far (p := ⟨go32, (x6_1 : Int).toNat * 2, none⟩) (Kd.R_types HO_270001.out GG32.out (by decide)) (fun _ hk => hk.2) (.int .i64 1)) (fun _ hk => hk.2) (.int .i64 (wrap64 (((rd_T43 x270003_1 x6_1).f1) + 1)))) (fun _ hk => ⟨trivial, hk.1⟩)) hg hat); replace BK253 := Aside0.mk (blk_grown (g := gb253) (o := .cells #[.slice A0_0 l0_0.length c0_0, .slice A0_1 l0_1.length c0_1, .int .i64 a0_2, .slice A0_3 l0_3.length c0_3] 31 (0, 0)) (by (with_reducible repeat (first | refine blk_drewN ?_ _ | refine blk_drew ?_ | refine blk_alloc ?_ _)); refine blk_far ?_ (by have h_ := Kd.R_ne HO_270003.out BK253.out (by decide); intro e_; exact h_ (by rw [e_]; rfl)) _; (with_reducible repeat (first | refine blk_drewN ?_ _ | refine blk_drew ?_ | refine blk_alloc ?_ _)); refine blk_far ?_ (by have h_ := Kd.R_ne HO_270003.out BK253.out (by decide); intro e_; exact h_ (by rw [e_]; rfl)) _; exact bT_ BK253) hg (Kd.R_ne HO_4.out BK253.out (by decide))); replace BK254 := Aside0.mk (blk_grown (g := gb254) (o := .cells #[.slice none 0 0, .slice none 0 0, .int .i64 0, .slice none 0 0] 31 (0, 0)) (by (with_reducible repeat (first | refine blk_drewN ?_ _ | refine blk_drew ?_ | refine blk_alloc ?_ _)); refine blk_far ?_ (by have h_ := Kd.R_ne HO_270003.out BK254.out (by decide); intro e_; exact h_ (by rw [e_]; rfl)) _; (with_reducible repeat (first | refine blk_drewN ?_ _ | refine blk_drew ?_ | refine blk_alloc ?_ _)); refine blk_far ?_ (by have h_ := Kd.R_ne HO_270003.out BK254.out (by decide); intro e_; exact h_ (by rw [e_]; rfl)) _; exact bT_ BK254) hg (Kd.R_ne HO_4.out BK254.out (by decide))); replace BK269 := Aside0.mk (blk_grown (g := gb269) (o := .cells #[.slice (some ad270) t259.length co15, .slice (some ad274) t262.length co19, .int .i64 t265, .slice (some ⟨go32, 0, none⟩) x270003_1.length co37] 31 (0, 0)) (by (with_reducible repeat (first | refine blk_drewN ?_ _ | refine blk_drew ?_ | refine blk_alloc ?_ _)); refine blk_far ?_ (by have h_ := Kd.R_ne HO_270003.out BK269.out (by decide); intro e_; exact h_ (by rw [e_]; rfl)) _; (with_reducible repeat (first | refine blk_drewN ?_ _ | refine blk_drew ?_ | refine blk_alloc ?_ _)); refine blk_far ?_ (by have h_ := Kd.R_ne HO_270003.out BK269.out (by decide); intro e_; exact h_ (by rw [e_]; rfl)) _; exact bT_ BK269) hg (Kd.R_ne HO_4.out BK269.out (by decide))); replace HO_270003 := Aside0.mk (Kd.R_over' (by (with_reducible repeat (first | apply Kd.R_alloc | apply Kd.R_drewN | apply Kd.R_drew)); exact HQ42.out) (Kd.R_typed (by (with_reducible repeat (first | apply Kd.R_alloc | apply Kd.R_drewN | apply Kd.R_drew)); exact (Kd.R_mono (Kd.R_far (p := ⟨go32, (x6_1 : Int).toNat * 2 + 1, none⟩) (Kd.R_far (p := ⟨go32, (x6_1 : Int).toNat * 2, none⟩) (Kd.R_types HO_4.out GG32.out (by decide)) (fun _ hk => hk.2) (.int .i64 1)) (fun _ hk => hk.2) (.int .i64 (wrap64 (((rd_T43 x270003_1 x6_1).f1) + 1)))) (fun _ h_ => h_.1)))) (by decide) hg); replace HL270_0 := Aside0.mk (Kd.R_after (ok := (fun k_ => some k_ ≠ (.slice (some ad270) t259.length co15 : Value).ownBlock ∧ some k_ ≠ (.slice (some ad274) t262.length co19 : Value).ownBlock)) (by (with_reducible repeat (first | apply Kd.R_alloc | apply Kd.R_drewN | apply Kd.R_drew)); exact Kd.R_mono (Kd.R_far (p := ⟨go32, (x6_1 : Int).toNat * 2 + 1, none⟩) (Kd.R_far (p := ⟨go32, (x6_1 : Int).toNat * 2, none⟩) (Kd.R_types HL270_0.out GG32.out (by decide)) (fun _ hk => hk.2) (.int .i64 1)) (fun _ hk => hk.2) (.int .i64 (wrap64 (((rd_T43 x270003_1 x6_1).f1) + 1)))) (fun _ hk => ⟨⟨hk.1.2, hk.1.1.2⟩, hk.1.1.1⟩)) hg hat); replace HB := Aside0.mk (hb); have HO279 := Aside0.mk (ho); clear HO_4; clear ho hb hg hat))
        go_roundg k1
        case measure => have := HK1.out; omega
        case rel => exact ⟨(y277), (wrap64 (x6_1 + 1)), (y276), (.slice (some ⟨go32, 0, none⟩) x270003_1.length co37), (by first | rfl | (simp; done) | (simp [*]; done)), H', ⟨by have := HK1.out; omega⟩, ⟨rT_ HO279⟩, ⟨sM2_ HO_270000⟩, ⟨rM2_ HO_270001⟩, ⟨rT_ HO_270003⟩, ⟨bT_ BK253⟩, ⟨bT_ BK254⟩, ⟨bT_ BK269⟩, ⟨sABelo_10⟩⟩
       ·rw [if_neg c31] at H
        have c31b0 := decide_eq_false c31
        clear c31; have H' := Aside0.mk H; clear H; have hnb44 := NB269_253.out; have hnc44 := NB253_269.out; have hnb45 := NB269_254.out; have hnc45 := NB254_269.out
        obtain ⟨hcz46_0, hcz46_1, hcz46_2, hcz46_3, hfz46_0, hfz46_1, hfz46_2, hfz46_3⟩ := cf4_ BK269
        obtain ⟨Ao47, co47, eo47⟩ := Kd.R_slice HO_270003.out
        subst eo47
        have p270 : 0 ≤ (x6_1 : Int) := dA_
        have q270 : x6_1 < (t259.length : Int) := dA_
        obtain ⟨ad270, A270_0, c270_0, e270, hx270_0, hx270_1, hx270_2, hx270_3, hl270_0, hi270_0⟩ := at_T39 (Kd.S_reads' HO_270000.out).2.2 x6_1 p270 q270
        cases e270
        obtain ⟨ce270, hce270, hMe270, hcc270⟩ := Kd.S_get HO_270000.out z39 x6_1 p270 (by first | exact q270 | exact of_decide_eq_true (by first | (with_reducible assumption) | assumption) | (have e_ := (Kd.S_reads' HO_270000.out).1; omega))
        obtain ⟨ve270_0, rfl, ge270_0⟩ := k39_openM hMe270
        have hv270_0 := hcc270 0 _ rfl
        rw [Nat.add_zero] at hv270_0
        replace hv270_0 := Option.some.inj (hv270_0.symm.trans hx270_0)
        rw [hv270_0] at ge270_0
        have HL270_0 := Aside0.mk (show Kd.R (Kd.int .i64) 2 _ _ _ _ ((rd_T39 t259 x6_1).f0) from ge270_0)
        clear hv270_0 ge270_0 hcc270 hce270; have HR270_0 := Aside0.mk hi270_0; have HC270_0 := Aside0.mk hl270_0; clear hi270_0 hl270_0; replace p270 := eq_true p270; replace q270 := eq_true q270
        try go_wp2
        replace HO_4 := Aside0.mk (Kd.R_drew HO_4.out)
        replace HO_270000 := Aside0.mk (Kd.S_drew HO_270000.out)
        replace HO_270001 := Aside0.mk (Kd.R_drew HO_270001.out)
        replace HO_270003 := Aside0.mk (Kd.R_drew HO_270003.out)
        replace HL270_0 := Aside0.mk (Kd.R_drew HL270_0.out)
        replace BK253 := Aside0.mk (blk_drew BK253.out)
        replace BK254 := Aside0.mk (blk_drew BK254.out)
        replace BK269 := Aside0.mk (blk_drew BK269.out)
        replace HR270_0 := Aside0.mk (Kd.C_drew HR270_0.out)
        replace HB := Aside0.mk (below_drew1 HB.out)
        have p271 : 0 ≤ (x6_1 : Int) := dA_
        have q271 : x6_1 < (x270003_1.length : Int) := dA_
        obtain ⟨ad271, e271, hx271_0, hx271_1⟩ := at_T43 (Kd.R_reads' HO_270003.out).2.2 x6_1 p271 q271
        cases e271
        replace p271 := eq_true p271; replace q271 := eq_true q271
        have p274 : 0 ≤ ((ji28) : Int) := dA_
        have q274 : (ji28) < (t262.length : Int) := dA_
        obtain ⟨ad274, e274, hx274_0⟩ := Kd.at_int (Kd.R_reads' HO_270001.out).2.2 (ji28) p274 q274
        cases e274
        replace p274 := eq_true p274; replace q274 := eq_true q274
        refine start_ (n := 25) (S := fun w' => w'.cell? ⟨gb269, 0, none⟩ = some (.slice (some ad270) t259.length co15) ∧ w'.cell? ⟨gb269, 1, none⟩ = some (.slice (some ad274) t262.length co19) ∧ w'.cell? ⟨gb269, 2, none⟩ = some (.int .i64 t265) ∧ w'.cell? ⟨gb269, 3, none⟩ = some (.slice (some ad271) x270003_1.length co47) ∧ w'.cell? (ad271.add ((x6_1).toNat * 2)) = some (.int .i64 ((rd_T43 x270003_1 x6_1).f0)) ∧ w'.cell? ⟨(ad271.add ((x6_1).toNat * 2)).block, (ad271.add ((x6_1).toNat * 2)).off + 1, none⟩ = some (.int .i64 ((rd_T43 x270003_1 x6_1).f1)) ∧ w'.cell? (ad274.add ((ji28)).toNat) = some (.int .i64 (rd t262 (ji28)))) (ds := []) #[false, false, false, false, false, false, false, false, false, false, false, false, false, false, false, false, false, false, false, false, false, false, false, false, false] (by kernel_rfl) rfl rfl ⟨(blk_cell BK269.out 0).trans rfl, (blk_cell BK269.out 1).trans rfl, (blk_cell BK269.out 2).trans rfl, (blk_cell BK269.out 3).trans rfl, hx271_0, hx271_1, hx274_0⟩ (fun hHeld => ?_); refine with_tabW spec_StartTasks.tab9 spec_StartTasks.bits9 (fun HT_ HW_ => ?_)
        generalize wr.drew = w48 at HO_4 HO_270000 HO_270001 HO_270003 HL270_0 BK253 BK254 BK269 HR270_0 HB hx271_0 hx271_1 hx274_0 hHeld ⊢
        refine pT_ 0 (some 30) #[true, false, false, false, false, false, false, false, false, false, false, false, false, false, false, false, false, false, false, false, false, false, false, false, false] HT_ ?_
        refine pT_ 2 (some 32) #[true, false, true, false, false, false, false, false, false, false, false, false, false, false, false, false, false, false, false, false, false, false, false, false, false] HT_ ?_
        refine tT_ 1 (some 31) #[true, true, true, false, false, false, false, false, false, false, false, false, false, false, false, false, false, false, false, false, false, false, false, false, false] HT_ HW_ hHeld ?_ (hy := by rintro w' ⟨s0, s1, s2, s3, s4, s5, s6⟩; go_simp; with_reducible rfl)
        refine pT_ 3 (some 33) #[true, true, true, true, false, false, false, false, false, false, false, false, false, false, false, false, false, false, false, false, false, false, false, false, false] HT_ ?_
        refine pT_ 4 (some 34) #[true, true, true, true, true, false, false, false, false, false, false, false, false, false, false, false, false, false, false, false, false, false, false, false, false] HT_ ?_
        refine tT_ 5 (some 35) #[true, true, true, true, true, true, false, false, false, false, false, false, false, false, false, false, false, false, false, false, false, false, false, false, false] HT_ HW_ hHeld ?_ (hy := by rintro w' ⟨s0, s1, s2, s3, s4, s5, s6⟩; go_simp; with_reducible rfl)
        refine pT_ 6 (some 36) #[true, true, true, true, true, true, true, false, false, false, false, false, false, false, false, false, false, false, false, false, false, false, false, false, false] HT_ ?_
        refine pT_ 7 (some 37) #[true, true, true, true, true, true, true, true, false, false, false, false, false, false, false, false, false, false, false, false, false, false, false, false, false] HT_ ?_
        refine pT_ 9 (some 39) #[true, true, true, true, true, true, true, true, false, true, false, false, false, false, false, false, false, false, false, false, false, false, false, false, false] HT_ ?_
        refine tT_ 8 (some 38) #[true, true, true, true, true, true, true, true, true, true, false, false, false, false, false, false, false, false, false, false, false, false, false, false, false] HT_ HW_ hHeld ?_ (hy := by rintro w' ⟨s0, s1, s2, s3, s4, s5, s6⟩; go_simp; with_reducible rfl)
        refine one_ (i := 10) (N := some 40) #[true, true, true, true, true, true, true, true, true, true, true, false, false, false, false, false, false, false, false, false, false, false, false, false, false] rfl rfl (one_of HT_.out (by kernel_rfl)) (by decide) (fun K hK => ?_)
        refine goes_ Try.func74 (by kernel_rfl) rfl #[.agg #[.slice (some ad270) t259.length co15, .slice (some ad274) t262.length co19, .int .i64 t265, .slice (some ad271) x270003_1.length co47], .int .i64 x6_1] (by rfl) rfl rfl (by (try simp only [List.map_toArray, List.map_cons, List.map_nil]); first | done | rfl | (simp only [List.length_drop, List.length_take]; rfl)) ?_
        with_reducible refine (spec_l24Free.calls k1 _ _ t259 _ _ t262 t265 _ _ x270003_1 x6_1 true _ ?side1 ?side2 ?side3 ?side4 ?side5 ?side6 A25.out).mono ?_
        (case side1 => exact sD_ HO_270000)
        (case side2 => exact (Kd.S_reads' HO_270000.out).2.1)
        (case side3 => exact rD_ HO_270001)
        (case side4 => exact (Kd.R_reads' HO_270001.out).2.1)
        (case side5 => exact rD_ HO_270003)
        (case side6 => exact (Kd.R_reads' HO_270003.out).2.1)
        rintro e w49 ⟨rfl, hb⟩
        have HS4_ := (hb.cell (World.block_lt_of_cell? _ _ (hHeld.2.2.2.2.1))).trans (hHeld.2.2.2.2.1)
        have HS5_ := (hb.cell (World.block_lt_of_cell? _ _ (hHeld.2.2.2.2.2.1))).trans (hHeld.2.2.2.2.2.1)
        have HS6_ := (hb.cell (World.block_lt_of_cell? _ _ (hHeld.2.2.2.2.2.2))).trans (hHeld.2.2.2.2.2.2)
        refine ⟨_, rfl, ?_⟩
        replace HO_4 := rB_ HO_4 hb; replace HO_270000 := sB_ HO_270000 hb; replace HO_270001 := rB_ HO_270001 hb; replace HO_270003 := rB_ HO_270003 hb; replace HL270_0 := rB_ HL270_0 hb; replace BK253 := bB_ BK253 hb; replace BK254 := bB_ BK254 hb; replace BK269 := bB_ BK269 hb
        replace HR270_0 := Aside0.mk (Kd.C_below (by repeat (first | (with_reducible exact HR270_0.out) | (with_reducible refine Kd.C_alloc ?_ _) | (with_reducible refine Kd.C_drewN ?_ _) | (with_reducible refine Kd.C_drew ?_) | exact HR270_0.out)) hb)
        replace HB := bS_ HB hb; (try clear hb); (try clear hk)
        refine hK.out _ _ ⟨(blk_cell BK269.out 0).trans rfl, (blk_cell BK269.out 1).trans rfl, (blk_cell BK269.out 2).trans rfl, (blk_cell BK269.out 3).trans rfl, HS4_, HS5_, HS6_⟩ (fun hHeld => ?_)
        clear hK K
        refine nS_ (some 40) ?_
        refine pT_ 11 (some 41) #[true, true, true, true, true, true, true, true, true, true, true, true, false, false, false, false, false, false, false, false, false, false, false, false, false] HT_ ?_
        refine pT_ 12 (some 42) #[true, true, true, true, true, true, true, true, true, true, true, true, true, false, false, false, false, false, false, false, false, false, false, false, false] HT_ ?_
        refine pT_ 14 (some 44) #[true, true, true, true, true, true, true, true, true, true, true, true, true, false, true, false, false, false, false, false, false, false, false, false, false] HT_ ?_
        refine pT_ 16 (some 46) #[true, true, true, true, true, true, true, true, true, true, true, true, true, false, true, false, true, false, false, false, false, false, false, false, false] HT_ ?_
        refine pT_ 17 (some 47) #[true, true, true, true, true, true, true, true, true, true, true, true, true, false, true, false, true, true, false, false, false, false, false, false, false] HT_ ?_
        refine pT_ 19 (some 49) #[true, true, true, true, true, true, true, true, true, true, true, true, true, false, true, false, true, true, false, true, false, false, false, false, false] HT_ ?_
        refine pT_ 20 (some 50) #[true, true, true, true, true, true, true, true, true, true, true, true, true, false, true, false, true, true, false, true, true, false, false, false, false] HT_ ?_
        refine tT_ 13 (some 43) #[true, true, true, true, true, true, true, true, true, true, true, true, true, true, true, false, true, true, false, true, true, false, false, false, false] HT_ HW_ hHeld ?_ (hy := by rintro w' ⟨s0, s1, s2, s3, s4, s5, s6⟩; go_simp; with_reducible rfl)
        refine tT_ 18 (some 48) #[true, true, true, true, true, true, true, true, true, true, true, true, true, true, true, false, true, true, true, true, true, false, false, false, false] HT_ HW_ hHeld ?_ (hy := by rintro w' ⟨s0, s1, s2, s3, s4, s5, s6⟩; go_simp; with_reducible rfl)
        refine pT_ 21 (some 51) #[true, true, true, true, true, true, true, true, true, true, true, true, true, true, true, false, true, true, true, true, true, true, false, false, false] HT_ ?_
        refine tT_ 22 (some 52) #[true, true, true, true, true, true, true, true, true, true, true, true, true, true, true, false, true, true, true, true, true, true, true, false, false] HT_ HW_ hHeld ?_ (hy := by rintro w' ⟨s0, s1, s2, s3, s4, s5, s6⟩; go_simp; with_reducible rfl)
        refine one_ (i := 15) (N := some 45) #[true, true, true, true, true, true, true, true, true, true, true, true, true, true, true, true, true, true, true, true, true, true, true, false, false] rfl rfl (one_of HT_.out (by kernel_rfl)) (by decide) (fun K hK => ?_)
        refine goes_ Try.func75 (by kernel_rfl) rfl #[.agg #[.slice (some ad270) t259.length co15, .slice (some ad274) t262.length co19, .int .i64 t265, .slice (some ad271) x270003_1.length co47], .int .i64 ((rd_T39 t259 x6_1).f1)] (by rfl) rfl rfl (by (try simp only [List.map_toArray, List.map_cons, List.map_nil]); first | done | rfl | (simp only [List.length_drop, List.length_take]; rfl)) ?_
        with_reducible refine (spec_l24Running.calls k1 _ _ t259 _ _ t262 t265 _ _ x270003_1 ((rd_T39 t259 x6_1).f1) t273 _ ?side1 ?side2 ?side3 ?side4 ?side5 ?side6 A27.out).mono ?_
        (case side1 => exact sD_ HO_270000)
        (case side2 => exact (Kd.S_reads' HO_270000.out).2.1)
        (case side3 => exact rD_ HO_270001)
        (case side4 => exact (Kd.R_reads' HO_270001.out).2.1)
        (case side5 => exact rD_ HO_270003)
        (case side6 => exact (Kd.R_reads' HO_270003.out).2.1)
        rintro e w50 ⟨rfl, hb⟩
        have HS4_ := (hb.cell (World.block_lt_of_cell? _ _ (hHeld.2.2.2.2.1))).trans (hHeld.2.2.2.2.1)
        have HS5_ := (hb.cell (World.block_lt_of_cell? _ _ (hHeld.2.2.2.2.2.1))).trans (hHeld.2.2.2.2.2.1)
        have HS6_ := (hb.cell (World.block_lt_of_cell? _ _ (hHeld.2.2.2.2.2.2))).trans (hHeld.2.2.2.2.2.2)
        refine ⟨_, rfl, ?_⟩
        replace HO_4 := rB_ HO_4 hb; replace HO_270000 := sB_ HO_270000 hb; replace HO_270001 := rB_ HO_270001 hb; replace HO_270003 := rB_ HO_270003 hb; replace HL270_0 := rB_ HL270_0 hb; replace BK253 := bB_ BK253 hb; replace BK254 := bB_ BK254 hb; replace BK269 := bB_ BK269 hb
        replace HR270_0 := Aside0.mk (Kd.C_below (by repeat (first | (with_reducible exact HR270_0.out) | (with_reducible refine Kd.C_alloc ?_ _) | (with_reducible refine Kd.C_drewN ?_ _) | (with_reducible refine Kd.C_drew ?_) | exact HR270_0.out)) hb)
        replace HB := bS_ HB hb; (try clear hb); (try clear hk)
        refine hK.out _ _ ⟨(blk_cell BK269.out 0).trans rfl, (blk_cell BK269.out 1).trans rfl, (blk_cell BK269.out 2).trans rfl, (blk_cell BK269.out 3).trans rfl, HS4_, HS5_, HS6_⟩ (fun hHeld => ?_)
        clear hK K
        refine nS_ (some 45) ?_
        refine pT_ 23 (some 53) #[true, true, true, true, true, true, true, true, true, true, true, true, true, true, true, true, true, true, true, true, true, true, true, true, false] HT_ ?_
        refine pT_ 24 (some 54) #[true, true, true, true, true, true, true, true, true, true, true, true, true, true, true, true, true, true, true, true, true, true, true, true, true] HT_ ?_
        refine done_ (done_of HT_.out (by kernel_rfl)) ?_
        try go_wp2
        go_roundg k1
        case measure => have := HK1.out; omega
        case rel => exact ⟨(x4_1), (wrap64 (x6_1 + 1)), (x270003_1), (.slice (some ad271) x270003_1.length co47), (by first | rfl | (simp; done) | (simp [*]; done)), H', ⟨by have := HK1.out; omega⟩, ⟨rT_ HO_4⟩, ⟨sT_ HO_270000⟩, ⟨rT_ HO_270001⟩, ⟨rT_ HO_270003⟩, ⟨bT_ BK253⟩, ⟨bT_ BK254⟩, ⟨bT_ BK269⟩, ⟨sABelo_10⟩⟩
      ·replace c26 := Bool.eq_false_iff.mpr c26
       subst c26
       replace H := ifF_ H; have H' := Aside0.mk H; clear H; have hnb51 := NB269_253.out; have hnc51 := NB253_269.out; have hnb52 := NB269_254.out; have hnc52 := NB254_269.out
       obtain ⟨hcz53_0, hcz53_1, hcz53_2, hcz53_3, hfz53_0, hfz53_1, hfz53_2, hfz53_3⟩ := cf4_ BK269
       obtain ⟨Ao54, co54, eo54⟩ := Kd.R_slice HO_270003.out
       subst eo54
       have p270 : 0 ≤ (x6_1 : Int) := dA_
       have q270 : x6_1 < (t259.length : Int) := dA_
       obtain ⟨ad270, A270_0, c270_0, e270, hx270_0, hx270_1, hx270_2, hx270_3, hl270_0, hi270_0⟩ := at_T39 (Kd.S_reads' HO_270000.out).2.2 x6_1 p270 q270
       cases e270
       obtain ⟨ce270, hce270, hMe270, hcc270⟩ := Kd.S_get HO_270000.out z39 x6_1 p270 (by first | exact q270 | exact of_decide_eq_true (by first | (with_reducible assumption) | assumption) | (have e_ := (Kd.S_reads' HO_270000.out).1; omega))
       obtain ⟨ve270_0, rfl, ge270_0⟩ := k39_openM hMe270
       have hv270_0 := hcc270 0 _ rfl
       rw [Nat.add_zero] at hv270_0
       replace hv270_0 := Option.some.inj (hv270_0.symm.trans hx270_0)
       rw [hv270_0] at ge270_0
       have HL270_0 := Aside0.mk (show Kd.R (Kd.int .i64) 2 _ _ _ _ ((rd_T39 t259 x6_1).f0) from ge270_0)
       clear hv270_0 ge270_0 hcc270 hce270; have HR270_0 := Aside0.mk hi270_0; have HC270_0 := Aside0.mk hl270_0; clear hi270_0 hl270_0; replace p270 := eq_true p270; replace q270 := eq_true q270
       try go_wp2
       replace HO_4 := Aside0.mk (Kd.R_drew HO_4.out)
       replace HO_270000 := Aside0.mk (Kd.S_drew HO_270000.out)
       replace HO_270001 := Aside0.mk (Kd.R_drew HO_270001.out)
       replace HO_270003 := Aside0.mk (Kd.R_drew HO_270003.out)
       replace HL270_0 := Aside0.mk (Kd.R_drew HL270_0.out)
       replace BK253 := Aside0.mk (blk_drew BK253.out)
       replace BK254 := Aside0.mk (blk_drew BK254.out)
       replace BK269 := Aside0.mk (blk_drew BK269.out)
       replace HR270_0 := Aside0.mk (Kd.C_drew HR270_0.out)
       replace HB := Aside0.mk (below_drew1 HB.out)
       have p271 : 0 ≤ (x6_1 : Int) := dA_
       have q271 : x6_1 < (x270003_1.length : Int) := dA_
       obtain ⟨ad271, e271, hx271_0, hx271_1⟩ := at_T43 (Kd.R_reads' HO_270003.out).2.2 x6_1 p271 q271
       cases e271
       replace p271 := eq_true p271; replace q271 := eq_true q271
       refine start_ (n := 25) (S := fun w' => w'.cell? ⟨gb269, 0, none⟩ = some (.slice (some ad270) t259.length co15) ∧ w'.cell? ⟨gb269, 1, none⟩ = some (.slice Ao19 t262.length co19) ∧ w'.cell? ⟨gb269, 2, none⟩ = some (.int .i64 t265) ∧ w'.cell? ⟨gb269, 3, none⟩ = some (.slice (some ad271) x270003_1.length co54) ∧ w'.cell? (ad271.add ((x6_1).toNat * 2)) = some (.int .i64 ((rd_T43 x270003_1 x6_1).f0)) ∧ w'.cell? ⟨(ad271.add ((x6_1).toNat * 2)).block, (ad271.add ((x6_1).toNat * 2)).off + 1, none⟩ = some (.int .i64 ((rd_T43 x270003_1 x6_1).f1))) (ds := []) #[false, false, false, false, false, false, false, false, false, false, false, false, false, false, false, false, false, false, false, false, false, false, false, false, false] (by kernel_rfl) rfl rfl ⟨(blk_cell BK269.out 0).trans rfl, (blk_cell BK269.out 1).trans rfl, (blk_cell BK269.out 2).trans rfl, (blk_cell BK269.out 3).trans rfl, hx271_0, hx271_1⟩ (fun hHeld => ?_); refine with_tabW spec_StartTasks.tab9 spec_StartTasks.bits9 (fun HT_ HW_ => ?_)
       generalize wr.drew = w55 at HO_4 HO_270000 HO_270001 HO_270003 HL270_0 BK253 BK254 BK269 HR270_0 HB hx271_0 hx271_1 hHeld ⊢
       refine pT_ 0 (some 30) #[true, false, false, false, false, false, false, false, false, false, false, false, false, false, false, false, false, false, false, false, false, false, false, false, false] HT_ ?_
       refine pT_ 2 (some 32) #[true, false, true, false, false, false, false, false, false, false, false, false, false, false, false, false, false, false, false, false, false, false, false, false, false] HT_ ?_
       refine tT_ 1 (some 31) #[true, true, true, false, false, false, false, false, false, false, false, false, false, false, false, false, false, false, false, false, false, false, false, false, false] HT_ HW_ hHeld ?_ (hy := by rintro w' ⟨s0, s1, s2, s3, s4, s5⟩; go_simp; with_reducible rfl)
       refine pT_ 3 (some 33) #[true, true, true, true, false, false, false, false, false, false, false, false, false, false, false, false, false, false, false, false, false, false, false, false, false] HT_ ?_
       refine pT_ 4 (some 34) #[true, true, true, true, true, false, false, false, false, false, false, false, false, false, false, false, false, false, false, false, false, false, false, false, false] HT_ ?_
       refine tT_ 5 (some 35) #[true, true, true, true, true, true, false, false, false, false, false, false, false, false, false, false, false, false, false, false, false, false, false, false, false] HT_ HW_ hHeld ?_ (hy := by rintro w' ⟨s0, s1, s2, s3, s4, s5⟩; go_simp; with_reducible rfl)
       refine pT_ 6 (some 36) #[true, true, true, true, true, true, true, false, false, false, false, false, false, false, false, false, false, false, false, false, false, false, false, false, false] HT_ ?_
       refine pT_ 7 (some 37) #[true, true, true, true, true, true, true, true, false, false, false, false, false, false, false, false, false, false, false, false, false, false, false, false, false] HT_ ?_
       refine pT_ 9 (some 39) #[true, true, true, true, true, true, true, true, false, true, false, false, false, false, false, false, false, false, false, false, false, false, false, false, false] HT_ ?_
       refine tT_ 8 (some 38) #[true, true, true, true, true, true, true, true, true, true, false, false, false, false, false, false, false, false, false, false, false, false, false, false, false] HT_ HW_ hHeld ?_ (hy := by rintro w' ⟨s0, s1, s2, s3, s4, s5⟩; go_simp; with_reducible rfl)
       refine one_ (i := 10) (N := some 40) #[true, true, true, true, true, true, true, true, true, true, true, false, false, false, false, false, false, false, false, false, false, false, false, false, false] rfl rfl (one_of HT_.out (by kernel_rfl)) (by decide) (fun K hK => ?_)
       refine goes_ Try.func74 (by kernel_rfl) rfl #[.agg #[.slice (some ad270) t259.length co15, .slice Ao19 t262.length co19, .int .i64 t265, .slice (some ad271) x270003_1.length co54], .int .i64 x6_1] (by rfl) rfl rfl (by (try simp only [List.map_toArray, List.map_cons, List.map_nil]); first | done | rfl | (simp only [List.length_drop, List.length_take]; rfl)) ?_
       with_reducible refine (spec_l24Free.calls k1 _ _ t259 _ _ t262 t265 _ _ x270003_1 x6_1 false _ ?side1 ?side2 ?side3 ?side4 ?side5 ?side6 A25.out).mono ?_
       (case side1 => exact sD_ HO_270000)
       (case side2 => exact (Kd.S_reads' HO_270000.out).2.1)
       (case side3 => exact rD_ HO_270001)
       (case side4 => exact (Kd.R_reads' HO_270001.out).2.1)
       (case side5 => exact rD_ HO_270003)
       (case side6 => exact (Kd.R_reads' HO_270003.out).2.1)
       rintro e w56 ⟨rfl, hb⟩
       have HS4_ := (hb.cell (World.block_lt_of_cell? _ _ (hHeld.2.2.2.2.1))).trans (hHeld.2.2.2.2.1)
       have HS5_ := (hb.cell (World.block_lt_of_cell? _ _ (hHeld.2.2.2.2.2))).trans (hHeld.2.2.2.2.2)
       refine ⟨_, rfl, ?_⟩
       replace HO_4 := rB_ HO_4 hb; replace HO_270000 := sB_ HO_270000 hb; replace HO_270001 := rB_ HO_270001 hb; replace HO_270003 := rB_ HO_270003 hb; replace HL270_0 := rB_ HL270_0 hb; replace BK253 := bB_ BK253 hb; replace BK254 := bB_ BK254 hb; replace BK269 := bB_ BK269 hb
       replace HR270_0 := Aside0.mk (Kd.C_below (by repeat (first | (with_reducible exact HR270_0.out) | (with_reducible refine Kd.C_alloc ?_ _) | (with_reducible refine Kd.C_drewN ?_ _) | (with_reducible refine Kd.C_drew ?_) | exact HR270_0.out)) hb)
       replace HB := bS_ HB hb; (try clear hb); (try clear hk)
       refine hK.out _ _ ⟨(blk_cell BK269.out 0).trans rfl, (blk_cell BK269.out 1).trans rfl, (blk_cell BK269.out 2).trans rfl, (blk_cell BK269.out 3).trans rfl, HS4_, HS5_⟩ (fun hHeld => ?_)
       clear hK K
       refine nS_ (some 40) ?_
       refine pT_ 11 (some 41) #[true, true, true, true, true, true, true, true, true, true, true, true, false, false, false, false, false, false, false, false, false, false, false, false, false] HT_ ?_
       refine pT_ 12 (some 42) #[true, true, true, true, true, true, true, true, true, true, true, true, true, false, false, false, false, false, false, false, false, false, false, false, false] HT_ ?_
       refine pU_ 13 (some 43) #[true, true, true, true, true, true, true, true, true, true, true, true, true, true, false, false, false, false, false, false, false, false, false, false, false] HT_ ?_
       refine pU_ 14 (some 44) #[true, true, true, true, true, true, true, true, true, true, true, true, true, true, true, false, false, false, false, false, false, false, false, false, false] HT_ ?_
       refine pU_ 15 (some 45) #[true, true, true, true, true, true, true, true, true, true, true, true, true, true, true, true, false, false, false, false, false, false, false, false, false] HT_ ?_
       refine pU_ 16 (some 46) #[true, true, true, true, true, true, true, true, true, true, true, true, true, true, true, true, true, false, false, false, false, false, false, false, false] HT_ ?_
       refine pU_ 17 (some 47) #[true, true, true, true, true, true, true, true, true, true, true, true, true, true, true, true, true, true, false, false, false, false, false, false, false] HT_ ?_
       refine pU_ 18 (some 48) #[true, true, true, true, true, true, true, true, true, true, true, true, true, true, true, true, true, true, true, false, false, false, false, false, false] HT_ ?_
       refine pU_ 19 (some 49) #[true, true, true, true, true, true, true, true, true, true, true, true, true, true, true, true, true, true, true, true, false, false, false, false, false] HT_ ?_
       refine pU_ 20 (some 50) #[true, true, true, true, true, true, true, true, true, true, true, true, true, true, true, true, true, true, true, true, true, false, false, false, false] HT_ ?_
       refine pU_ 21 (some 51) #[true, true, true, true, true, true, true, true, true, true, true, true, true, true, true, true, true, true, true, true, true, true, false, false, false] HT_ ?_
       refine pU_ 22 (some 52) #[true, true, true, true, true, true, true, true, true, true, true, true, true, true, true, true, true, true, true, true, true, true, true, false, false] HT_ ?_
       refine pU_ 23 (some 53) #[true, true, true, true, true, true, true, true, true, true, true, true, true, true, true, true, true, true, true, true, true, true, true, true, false] HT_ ?_
       refine pT_ 24 (some 54) #[true, true, true, true, true, true, true, true, true, true, true, true, true, true, true, true, true, true, true, true, true, true, true, true, true] HT_ ?_
       refine done_ (done_of HT_.out (by kernel_rfl)) ?_
       try go_wp2
       go_roundg k1
       case measure => have := HK1.out; omega
       case rel => exact ⟨(x4_1), (wrap64 (x6_1 + 1)), (x270003_1), (.slice (some ad271) x270003_1.length co54), (by first | rfl | (simp; done) | (simp [*]; done)), H', ⟨by have := HK1.out; omega⟩, ⟨rT_ HO_4⟩, ⟨sT_ HO_270000⟩, ⟨rT_ HO_270001⟩, ⟨rT_ HO_270003⟩, ⟨bT_ BK253⟩, ⟨bT_ BK254⟩, ⟨bT_ BK269⟩, ⟨sABelo_10⟩⟩
     ·rw [if_neg c24] at H
      have c24b0 := beq_eq_false_iff_ne.mpr c24
      have c24b1 := bne_iff_ne.mpr c24
      have H' := Aside0.mk H; clear H; have hnb57 := NB269_253.out; have hnc57 := NB253_269.out; have hnb58 := NB269_254.out; have hnc58 := NB254_269.out
      obtain ⟨hcz59_0, hcz59_1, hcz59_2, hcz59_3, hfz59_0, hfz59_1, hfz59_2, hfz59_3⟩ := cf4_ BK269
      obtain ⟨Ao60, co60, eo60⟩ := Kd.R_slice HO_270003.out
      subst eo60
      have p270 : 0 ≤ (x6_1 : Int) := dA_
      have q270 : x6_1 < (t259.length : Int) := dA_
      obtain ⟨ad270, A270_0, c270_0, e270, hx270_0, hx270_1, hx270_2, hx270_3, hl270_0, hi270_0⟩ := at_T39 (Kd.S_reads' HO_270000.out).2.2 x6_1 p270 q270
      cases e270
      obtain ⟨ce270, hce270, hMe270, hcc270⟩ := Kd.S_get HO_270000.out z39 x6_1 p270 (by first | exact q270 | exact of_decide_eq_true (by first | (with_reducible assumption) | assumption) | (have e_ := (Kd.S_reads' HO_270000.out).1; omega))
      obtain ⟨ve270_0, rfl, ge270_0⟩ := k39_openM hMe270
      have hv270_0 := hcc270 0 _ rfl
      rw [Nat.add_zero] at hv270_0
      replace hv270_0 := Option.some.inj (hv270_0.symm.trans hx270_0)
      rw [hv270_0] at ge270_0
      have HL270_0 := Aside0.mk (show Kd.R (Kd.int .i64) 2 _ _ _ _ ((rd_T39 t259 x6_1).f0) from ge270_0)
      clear hv270_0 ge270_0 hcc270 hce270; have HR270_0 := Aside0.mk hi270_0; have HC270_0 := Aside0.mk hl270_0; clear hi270_0 hl270_0; replace p270 := eq_true p270; replace q270 := eq_true q270
      try go_wp2
      replace HO_4 := Aside0.mk (Kd.R_drew HO_4.out)
      replace HO_270000 := Aside0.mk (Kd.S_drew HO_270000.out)
      replace HO_270001 := Aside0.mk (Kd.R_drew HO_270001.out)
      replace HO_270003 := Aside0.mk (Kd.R_drew HO_270003.out)
      replace HL270_0 := Aside0.mk (Kd.R_drew HL270_0.out)
      replace BK253 := Aside0.mk (blk_drew BK253.out)
      replace BK254 := Aside0.mk (blk_drew BK254.out)
      replace BK269 := Aside0.mk (blk_drew BK269.out)
      replace HR270_0 := Aside0.mk (Kd.C_drew HR270_0.out)
      replace HB := Aside0.mk (below_drew1 HB.out)
      have p271 : 0 ≤ (x6_1 : Int) := dA_
      have q271 : x6_1 < (x270003_1.length : Int) := dA_
      obtain ⟨ad271, e271, hx271_0, hx271_1⟩ := at_T43 (Kd.R_reads' HO_270003.out).2.2 x6_1 p271 q271
      cases e271
      replace p271 := eq_true p271; replace q271 := eq_true q271
      refine start_ (n := 25) (S := fun w' => w'.cell? ⟨gb269, 0, none⟩ = some (.slice (some ad270) t259.length co15) ∧ w'.cell? ⟨gb269, 1, none⟩ = some (.slice Ao19 t262.length co19) ∧ w'.cell? ⟨gb269, 2, none⟩ = some (.int .i64 t265) ∧ w'.cell? ⟨gb269, 3, none⟩ = some (.slice (some ad271) x270003_1.length co60) ∧ w'.cell? (ad271.add ((x6_1).toNat * 2)) = some (.int .i64 ((rd_T43 x270003_1 x6_1).f0)) ∧ w'.cell? ⟨(ad271.add ((x6_1).toNat * 2)).block, (ad271.add ((x6_1).toNat * 2)).off + 1, none⟩ = some (.int .i64 ((rd_T43 x270003_1 x6_1).f1))) (ds := []) #[false, false, false, false, false, false, false, false, false, false, false, false, false, false, false, false, false, false, false, false, false, false, false, false, false] (by kernel_rfl) rfl rfl ⟨(blk_cell BK269.out 0).trans rfl, (blk_cell BK269.out 1).trans rfl, (blk_cell BK269.out 2).trans rfl, (blk_cell BK269.out 3).trans rfl, hx271_0, hx271_1⟩ (fun hHeld => ?_); refine with_tabW spec_StartTasks.tab9 spec_StartTasks.bits9 (fun HT_ HW_ => ?_)
      generalize wr.drew = w61 at HO_4 HO_270000 HO_270001 HO_270003 HL270_0 BK253 BK254 BK269 HR270_0 HB hx271_0 hx271_1 hHeld ⊢
      refine pT_ 0 (some 30) #[true, false, false, false, false, false, false, false, false, false, false, false, false, false, false, false, false, false, false, false, false, false, false, false, false] HT_ ?_
      refine pT_ 2 (some 32) #[true, false, true, false, false, false, false, false, false, false, false, false, false, false, false, false, false, false, false, false, false, false, false, false, false] HT_ ?_
      refine tT_ 1 (some 31) #[true, true, true, false, false, false, false, false, false, false, false, false, false, false, false, false, false, false, false, false, false, false, false, false, false] HT_ HW_ hHeld ?_ (hy := by rintro w' ⟨s0, s1, s2, s3, s4, s5⟩; go_simp; with_reducible rfl)
      refine pT_ 3 (some 33) #[true, true, true, true, false, false, false, false, false, false, false, false, false, false, false, false, false, false, false, false, false, false, false, false, false] HT_ ?_
      refine pT_ 4 (some 34) #[true, true, true, true, true, false, false, false, false, false, false, false, false, false, false, false, false, false, false, false, false, false, false, false, false] HT_ ?_
      refine tT_ 5 (some 35) #[true, true, true, true, true, true, false, false, false, false, false, false, false, false, false, false, false, false, false, false, false, false, false, false, false] HT_ HW_ hHeld ?_ (hy := by rintro w' ⟨s0, s1, s2, s3, s4, s5⟩; go_simp; with_reducible rfl)
      refine pT_ 6 (some 36) #[true, true, true, true, true, true, true, false, false, false, false, false, false, false, false, false, false, false, false, false, false, false, false, false, false] HT_ ?_
      refine pT_ 7 (some 37) #[true, true, true, true, true, true, true, true, false, false, false, false, false, false, false, false, false, false, false, false, false, false, false, false, false] HT_ ?_
      refine pU_ 8 (some 38) #[true, true, true, true, true, true, true, true, true, false, false, false, false, false, false, false, false, false, false, false, false, false, false, false, false] HT_ ?_
      refine pU_ 9 (some 39) #[true, true, true, true, true, true, true, true, true, true, false, false, false, false, false, false, false, false, false, false, false, false, false, false, false] HT_ ?_
      refine pU_ 10 (some 40) #[true, true, true, true, true, true, true, true, true, true, true, false, false, false, false, false, false, false, false, false, false, false, false, false, false] HT_ ?_
      refine pT_ 11 (some 41) #[true, true, true, true, true, true, true, true, true, true, true, true, false, false, false, false, false, false, false, false, false, false, false, false, false] HT_ ?_
      refine pT_ 12 (some 42) #[true, true, true, true, true, true, true, true, true, true, true, true, true, false, false, false, false, false, false, false, false, false, false, false, false] HT_ ?_
      refine pU_ 13 (some 43) #[true, true, true, true, true, true, true, true, true, true, true, true, true, true, false, false, false, false, false, false, false, false, false, false, false] HT_ ?_
      refine pU_ 14 (some 44) #[true, true, true, true, true, true, true, true, true, true, true, true, true, true, true, false, false, false, false, false, false, false, false, false, false] HT_ ?_
      refine pU_ 15 (some 45) #[true, true, true, true, true, true, true, true, true, true, true, true, true, true, true, true, false, false, false, false, false, false, false, false, false] HT_ ?_
      refine pU_ 16 (some 46) #[true, true, true, true, true, true, true, true, true, true, true, true, true, true, true, true, true, false, false, false, false, false, false, false, false] HT_ ?_
      refine pU_ 17 (some 47) #[true, true, true, true, true, true, true, true, true, true, true, true, true, true, true, true, true, true, false, false, false, false, false, false, false] HT_ ?_
      refine pU_ 18 (some 48) #[true, true, true, true, true, true, true, true, true, true, true, true, true, true, true, true, true, true, true, false, false, false, false, false, false] HT_ ?_
      refine pU_ 19 (some 49) #[true, true, true, true, true, true, true, true, true, true, true, true, true, true, true, true, true, true, true, true, false, false, false, false, false] HT_ ?_
      refine pU_ 20 (some 50) #[true, true, true, true, true, true, true, true, true, true, true, true, true, true, true, true, true, true, true, true, true, false, false, false, false] HT_ ?_
      refine pU_ 21 (some 51) #[true, true, true, true, true, true, true, true, true, true, true, true, true, true, true, true, true, true, true, true, true, true, false, false, false] HT_ ?_
      refine pU_ 22 (some 52) #[true, true, true, true, true, true, true, true, true, true, true, true, true, true, true, true, true, true, true, true, true, true, true, false, false] HT_ ?_
      refine pU_ 23 (some 53) #[true, true, true, true, true, true, true, true, true, true, true, true, true, true, true, true, true, true, true, true, true, true, true, true, false] HT_ ?_
      refine pT_ 24 (some 54) #[true, true, true, true, true, true, true, true, true, true, true, true, true, true, true, true, true, true, true, true, true, true, true, true, true] HT_ ?_
      refine done_ (done_of HT_.out (by kernel_rfl)) ?_
      try go_wp2
      go_roundg k1
      case measure => have := HK1.out; omega
      case rel => exact ⟨(x4_1), (wrap64 (x6_1 + 1)), (x270003_1), (.slice (some ad271) x270003_1.length co60), (by first | rfl | (simp; done) | (simp [*]; done)), H', ⟨by have := HK1.out; omega⟩, ⟨rT_ HO_4⟩, ⟨sT_ HO_270000⟩, ⟨rT_ HO_270001⟩, ⟨rT_ HO_270003⟩, ⟨bT_ BK253⟩, ⟨bT_ BK254⟩, ⟨bT_ BK269⟩, ⟨sABelo_10⟩⟩
    ·rw [if_neg c21] at H
     have c21b0 := decide_eq_false c21
     clear c21
     simp only [Option.some.injEq, Prod.mk.injEq] at H
     obtain ⟨rfl, rfl, rfl, rfl, rfl⟩ := H
     have hnb62 := NB269_253.out; have hnc62 := NB253_269.out; have hnb63 := NB269_254.out; have hnc63 := NB254_269.out
     obtain ⟨hcz64_0, hcz64_1, hcz64_2, hcz64_3, hfz64_0, hfz64_1, hfz64_2, hfz64_3⟩ := cf4_ BK269
     obtain ⟨Ao65, co65, eo65⟩ := Kd.R_slice HO_270003.out
     subst eo65
     have hnb66 := NB254_253.out; have hnc66 := NB253_254.out
     obtain ⟨hcz67_0, hcz67_1, hcz67_2, hcz67_3, hfz67_0, hfz67_1, hfz67_2, hfz67_3⟩ := cf4_ BK254
     go_wp2
     refine bodyPost_ret (results_ct rfl _ _ gb254 31 #[.slice Ao15 t259.length co15, .slice Ao19 t262.length co19, .int .i64 t265, .slice Ao65 x270003_1.length co65] (0, 0) _ rfl (bP_ BK254) Try.underlying31 rfl (by kernel_rfl)) rfl ?_
     exact ⟨_, _, _, _, by first | rfl | (simp [errW_none, errW_some] <;> rfl) | (simp [*, errW_none, errW_some] <;> rfl), by (with_reducible repeat (first | apply Kd.S_alloc | apply Kd.S_drewN | apply Kd.S_drew)); exact Kd.S_mono (Kd.S_far (p := ⟨gb254, 3, none⟩) (Kd.S_far (p := ⟨gb254, 2, none⟩) (Kd.S_far (p := ⟨gb254, 1, none⟩) (Kd.S_far (p := ⟨gb254, 0, none⟩) (Kd.S_types HO_270000.out BK254.out (by decide)) (fun _ hk => hk.2) (.slice Ao15 t259.length co15)) (fun _ hk => hk.2) (.slice Ao19 t262.length co19)) (fun _ hk => hk.2) (.int .i64 t265)) (fun _ hk => hk.2) (.slice Ao65 x270003_1.length co65)) (fun _ hk => ⟨hk.1.2, hk.1.1⟩), by (with_reducible repeat (first | apply Kd.R_alloc | apply Kd.R_drewN | apply Kd.R_drew)); exact Kd.R_mono (Kd.R_far (p := ⟨gb254, 3, none⟩) (Kd.R_far (p := ⟨gb254, 2, none⟩) (Kd.R_far (p := ⟨gb254, 1, none⟩) (Kd.R_far (p := ⟨gb254, 0, none⟩) (Kd.R_types HO_270001.out BK254.out (by decide)) (fun _ hk => hk.2) (.slice Ao15 t259.length co15)) (fun _ hk => hk.2) (.slice Ao19 t262.length co19)) (fun _ hk => hk.2) (.int .i64 t265)) (fun _ hk => hk.2) (.slice Ao65 x270003_1.length co65)) (fun _ hk => hk.1), by (with_reducible repeat (first | apply Kd.R_alloc | apply Kd.R_drewN | apply Kd.R_drew)); exact Kd.R_mono (Kd.R_far (p := ⟨gb254, 3, none⟩) (Kd.R_far (p := ⟨gb254, 2, none⟩) (Kd.R_far (p := ⟨gb254, 1, none⟩) (Kd.R_far (p := ⟨gb254, 0, none⟩) (Kd.R_types HO_270003.out BK254.out (by decide)) (fun _ hk => hk.2) (.slice Ao15 t259.length co15)) (fun _ hk => hk.2) (.slice Ao19 t262.length co19)) (fun _ hk => hk.2) (.int .i64 t265)) (fun _ hk => hk.2) (.slice Ao65 x270003_1.length co65)) (fun _ hk => trivial), by (with_reducible repeat (first | apply Kd.R_alloc | apply Kd.R_drewN | apply Kd.R_drew)); exact Kd.R_mono (Kd.R_far (p := ⟨gb254, 3, none⟩) (Kd.R_far (p := ⟨gb254, 2, none⟩) (Kd.R_far (p := ⟨gb254, 1, none⟩) (Kd.R_far (p := ⟨gb254, 0, none⟩) (Kd.R_types HO_4.out BK254.out (by decide)) (fun _ hk => hk.2) (.slice Ao15 t259.length co15)) (fun _ hk => hk.2) (.slice Ao19 t262.length co19)) (fun _ hk => hk.2) (.int .i64 t265)) (fun _ hk => hk.2) (.slice Ao65 x270003_1.length co65)) (fun _ hk => hk.1), sABelo_10⟩
 ·replace c3 := Bool.eq_false_iff.mpr c3
  subst c3
  replace H := ifF_ H
  simp only [Option.some.injEq, Prod.mk.injEq] at H
  obtain ⟨rfl, rfl, rfl, rfl, rfl⟩ := H
  go_enter Try.func41, Try.ntmps41
  go_wp2_with (first | ((with_reducible refine gate_dst (N := 1) rfl ?_); refine box_event ?hg (N := 1) ?hd (cs := #[.slice A0_0 l0_0.length c0_0, .slice A0_1 l0_1.length c0_1, .int .i64 a0_2, .slice A0_3 l0_3.length c0_3]) (t := 31) ?hr ?_; (case hd => rfl); (case hg => rfl); (case hr => first | (go_simp; done) | (go_simp; rfl)); intro gb253 hg w68 hbox hb; have BK253 := Aside0.mk (hbox); have GW253 := gE_ HB hg; have GE253 := gE_ HB hg; replace HB := bS_ HB hb; clear hb hbox hg) | ((with_reducible refine gate_dst (N := 2) rfl ?_); refine box_event ?hg (N := 2) ?hd (cs := #[.slice none 0 0, .slice none 0 0, .int .i64 0, .slice none 0 0]) (t := 31) ?hr ?_; (case hd => rfl); (case hg => rfl); (case hr => first | (go_simp; done) | (go_simp; rfl)); intro gb254 hg w69 hbox hb; have BK254 := Aside0.mk (hbox); have GW254 := gE_ HB hg; have GE254 := gE_ HB hg; replace HB := bS_ HB hb; have NB253_254 := nL_ BK253 hg; have NB254_253 := nG_ BK253 hg; replace BK253 := bB_ BK253 hb; clear hb hbox hg) | ((with_reducible refine gate_dst (N := 8) rfl ?_); refine Kd.R_lit (Kd.int .i64) _ 2 ?hg (N := 8) ?hd (xs := ([] : List Int)) (inner := []) (ok := fun _ => True) (okp := fun _ => True) ?hr ?hp (fun _ hk => hk) trivial (Below.refl _ _) (Nat.le_refl _) (by simp) ?_; (case hd => rfl); (case hg => rfl); (case hr => first | (go_simp; done) | (go_simp; rfl)); (case hp => exact (Reps.none _ _)); intro v256 w70 ho71 hb hg_ hnew_; clear hg_ hnew_; (first | rw [← Ny255.out] at ho71 | (simp only [Int.reduceToNat] at ho71; rw [← Ny255.out] at ho71)); have HO257 := rL_ ho71 HB; replace BK253 := bB_ BK253 hb; replace BK254 := bB_ BK254 hb; replace HB := bS_ HB hb; clear hb ho71; have hnb72 := NB253_254.out; have hnc72 := NB254_253.out; obtain ⟨hcz73_0, hcz73_1, hcz73_2, hcz73_3, hfz73_0, hfz73_1, hfz73_2, hfz73_3⟩ := cf4_ BK253) | ((with_reducible refine gate_callee (f := 58) rfl ?_); refine gL_ (some 10) Try.func58 #[.agg #[.slice A0_0 l0_0.length c0_0, .slice A0_1 l0_1.length c0_1, .int .i64 a0_2, .slice A0_3 l0_3.length c0_3]] ?_; (with_reducible refine (spec_l24Ok.calls k _ _ l0_0 _ _ l0_1 a0_2 _ _ l0_3 false _ ?side1 ?side2 ?side3 ?side4 ?side5 ?side6 A2.out).mono ?_); (case side1 => exact cB_ HR0_0 HB); (case side2 => exact HC0_0.out); (case side3 => exact cB_ HR0_1 HB); (case side4 => exact HC0_1.out); (case side5 => exact cB_ HR0_3 HB); (case side6 => exact HC0_3.out); rintro e w74 ⟨rfl, hb⟩; refine ⟨_, rfl, ?_⟩; replace HO257 := rB_ HO257 hb; replace BK253 := bB_ BK253 hb; replace BK254 := bB_ BK254 hb; replace HB := bS_ HB hb; (try clear hb); (try clear hk); obtain ⟨hcz75_0, hcz75_1, hcz75_2, hcz75_3, hfz75_0, hfz75_1, hfz75_2, hfz75_3⟩ := cf4_ BK254))
  refine bodyPost_ret (results_ct rfl _ _ gb254 31 #[.slice none 0 0, .slice none 0 0, .int .i64 0, .slice none 0 0] (0, 0) _ rfl (bP_ BK254) Try.underlying31 rfl (by kernel_rfl)) rfl ?_
  exact ⟨_, _, _, _, by first | rfl | (simp [errW_none, errW_some] <;> rfl) | (simp [*, errW_none, errW_some] <;> rfl), by first | exact Kd.S_nil _ _ _ _ _ | exact Kd.N_nil _ _ _ _ _ | exact Kd.V_nil _ _ _ _ _ | exact Kd.Q_nil _ _ _ _ _ | exact Kd.R_nil _ _ _ _ _, by first | exact Kd.R_nil _ _ _ _ _ | exact Kd.N_nil _ _ _ _ _ | exact Kd.V_nil _ _ _ _ _ | exact Kd.Q_nil _ _ _ _ _ | exact Kd.S_nil _ _ _ _ _, by first | exact Kd.R_nil _ _ _ _ _ | exact Kd.N_nil _ _ _ _ _ | exact Kd.V_nil _ _ _ _ _ | exact Kd.Q_nil _ _ _ _ _ | exact Kd.S_nil _ _ _ _ _, by (with_reducible repeat (first | apply Kd.R_alloc | apply Kd.R_drewN | apply Kd.R_drew)); exact Kd.R_mono (Kd.R_far (p := ⟨gb254, 3, none⟩) (Kd.R_far (p := ⟨gb254, 2, none⟩) (Kd.R_far (p := ⟨gb254, 1, none⟩) (Kd.R_far (p := ⟨gb254, 0, none⟩) (Kd.R_types HO257.out BK254.out (by decide)) (fun _ hk => hk.2) (.slice none 0 0)) (fun _ hk => hk.2) (.slice none 0 0)) (fun _ hk => hk.2) (.int .i64 0)) (fun _ hk => hk.2) (.slice none 0 0)) (fun _ hk => (by simp [Value.ownBlock])), sABelo_10⟩

end Go.Proofs.Ytjoghfehmhapbaa.QFnLateOnce
