-- Written by a program of this session out of the printer's texts and contracts of its own.
import Derived.Test.YtjoghfehmhapbaaSq
import Derived.Test.YtjoghfehmhapbaaQFnReportsAnywayx0
import Derived.Test.YtjoghfehmhapbaaQFnReportsAnywayx2
import Derived.Test.YtjoghfehmhapbaaQFnReportsAnywayx7
import Derived.Test.YtjoghfehmhapbaaQFnReportsAnywayx8
namespace Go.Proofs.Ytjoghfehmhapbaa.QFnReportsAnyway
open Go.RowKit Go.Proofs.YtjoghfehmhapbaaW.PrintWords Go.Proofs.YtjoghfehmhapbaaW.PrintLast Go.Proofs.YtjoghfehmhapbaaW.PrintMore Go.Proofs.Ytjoghfehmhapbaa.Sq
attribute [local go_sem] max2_int min2_int max_two min_two max_three min_three max_four min_four   -- for this text's walks alone
set_option linter.unusedVariables false
set_option linter.unusedSimpArgs false
theorem sABelo_9 {b : Nat} {w W : World} (h : Below b w W := by repeat (first | (with_reducible first | exact Aside0.out (by assumption) | apply below_alloc | apply pw_below_drewN | apply below_drew1 | refine below_set ?_ (Aside0.out (by assumption))) | exact Aside0.out (by assumption))) : Below b w W := h
theorem sAKeep_9 {w W : World} {g : Nat} {row : Option Nat} (h : KeepBut w W g row := by repeat (first | (with_reducible first | exact Aside0.out (by assumption) | apply KeepBut.set_ | apply keep_drewN | apply keep_drew | apply keep_alloc) | exact Aside0.out (by assumption))) : KeepBut w W g row := h

/-! ### impl_Report: function 18 -/
def impl_Report.j0 : Nat → Int → Bool → Bool → List (S39) → List Int → Int → List (S43) → List (S39) → List Int → Int → List (S43) → Option ((List (S39)) × List Int × Int × (List (S43)) × Bool)
 | 0, _, _, _, _, _, _, _, _, _, _, _ => none
 | k + 1, x1, x2, x31, x187000, x187001, x187002, x187003, x200000, x200001, x200002, x200003 => if x31 = true then (some (x200000, x200001, x200002, x200003, false)) else (if x2 = true then (if 0 ≤ (wrap64 (x1 - 1)) then (if (wrap64 (x1 - 1)) < (x200003.length : Int) then (some (x200000, x200001, x200002, (x200003.set ((wrap64 (x1 - 1)) : Int).toNat (⟨2, (rd_T43 x200003 (wrap64 (x1 - 1))).f1⟩ : S43)), true)) else (none)) else (none)) else (if 0 ≤ (wrap64 (x1 - 1)) then (if (wrap64 (x1 - 1)) < (x200003.length : Int) then (if (wrap64 (x1 - 1)) < (x187000.length : Int) then (if ((rd_T43 x200003 (wrap64 (x1 - 1))).f1) = ((rd_T39 x187000 (wrap64 (x1 - 1))).f3) then (some (x200000, x200001, x200002, (x200003.set ((wrap64 (x1 - 1)) : Int).toNat (⟨3, (rd_T43 x200003 (wrap64 (x1 - 1))).f1⟩ : S43)), true)) else (some (x200000, x200001, x200002, (x200003.set ((wrap64 (x1 - 1)) : Int).toNat (⟨0, (rd_T43 x200003 (wrap64 (x1 - 1))).f1⟩ : S43)), true))) else (none)) else (none)) else (none)))
def impl_Report.f (k : Nat) (l0_0 : List (S39)) (l0_1 : List Int) (a0_2 : Int) (l0_3 : List (S43)) (a1 : Int) (a2 : Bool) : Option ((List (S39)) × List Int × Int × (List (S43)) × Bool) := (impl_runOk.f k l0_0 l0_1 a0_2 l0_3).bind fun t188 => (if t188 = true then ((impl_copyRun.f k l0_0 l0_1 a0_2 l0_3).bind fun bt189 => ((impl_in.f a1 1 (l0_3.length : Int)).bind fun t200 => (if t200 = true then (if 0 ≤ (wrap64 (a1 - 1)) then (if (wrap64 (a1 - 1)) < (l0_3.length : Int) then (impl_Report.j0 k a1 a2 (((rd_T43 l0_3 (wrap64 (a1 - 1))).f0) != 1) l0_0 l0_1 a0_2 l0_3 bt189.1 bt189.2.1 bt189.2.2.1 bt189.2.2.2) else (none)) else (none)) else (impl_Report.j0 k a1 a2 true l0_0 l0_1 a0_2 l0_3 bt189.1 bt189.2.1 bt189.2.2.1 bt189.2.2.2)))) else (some (([] : List (S39)), ([] : List Int), 0, ([] : List (S43)), false)))
theorem impl_Report.mono_l : ∀ k, (∀ y0 y1 y2 y3 y4 y5 y6 y7 y8 y9 y10, LeO (impl_Report.j0 k y0 y1 y2 y3 y4 y5 y6 y7 y8 y9 y10) (impl_Report.j0 (k + 1) y0 y1 y2 y3 y4 y5 y6 y7 y8 y9 y10))
 | 0 => fun _ _ _ _ _ _ _ _ _ _ _ r h => by simp [impl_Report.j0] at h
 | k + 1 => by
  have ih0 := impl_Report.mono_l k
  ·intro y0 y1 y2 y3 y4 y5 y6 y7 y8 y9 y10
   unfold impl_Report.j0
   repeat' first
   | (with_reducible exact ih0 _ _ _ _ _ _ _ _ _ _ _)
   | (with_reducible exact impl_copyRun.mono _ _ _ _ _)
   | (with_reducible exact impl_runOk.mono _ _ _ _ _)
   | (with_reducible exact LeO.refl _)
   | (with_reducible exact LeO.none _)
   | (with_reducible refine LeO.ite ?_ ?_)
   | (with_reducible refine LeO.bind ?_ (fun _ => ?_))
   | exact ih0 _ _ _ _ _ _ _ _ _ _ _
   | exact LeO.none _
   | refine LeO.ite ?_ ?_
   | refine LeO.bind ?_ (fun _ => ?_)
theorem impl_Report.mono : ∀ a0 a1 a2 a3 a4 a5 k, LeO (impl_Report.f k a0 a1 a2 a3 a4 a5) (impl_Report.f (k + 1) a0 a1 a2 a3 a4 a5) := by
 intro a0 a1 a2 a3 a4 a5 k
 have ih0 := impl_Report.mono_l k
 unfold impl_Report.f
 repeat' first
   | (with_reducible exact ih0 _ _ _ _ _ _ _ _ _ _ _)
   | (with_reducible exact impl_copyRun.mono _ _ _ _ _)
   | (with_reducible exact impl_runOk.mono _ _ _ _ _)
   | (with_reducible exact LeO.refl _)
   | (with_reducible exact LeO.none _)
   | (with_reducible refine LeO.ite ?_ ?_)
   | (with_reducible refine LeO.bind ?_ (fun _ => ?_))
   | exact ih0 _ _ _ _ _ _ _ _ _ _ _
   | exact LeO.none _
   | refine LeO.ite ?_ ?_
   | refine LeO.bind ?_ (fun _ => ?_)
set_option maxHeartbeats 8000000 in
set_option maxRecDepth 100000 in
theorem impl_Report.calls (k : Nat) (A0_0 : Option Addr) (c0_0 : Nat) (l0_0 : List (S39)) (A0_1 : Option Addr) (c0_1 : Nat) (l0_1 : List Int) (a0_2 : Int) (A0_3 : Option Addr) (c0_3 : Nat) (l0_3 : List (S43)) (a1 : Int) (a2 : Bool) (r1 : List (S39)) (r2 : List Int) (r3 : Int) (r4 : List (S43)) (r5 : Bool) (w : World) (hr0_0 : Kd.C k39 w A0_0 l0_0.length l0_0) (hc0_0 : l0_0.length ≤ c0_0) (hr0_1 : Kd.C (Kd.int .i64) w A0_1 l0_1.length l0_1) (hc0_1 : l0_1.length ≤ c0_1) (hr0_3 : Kd.C k43 w A0_3 l0_3.length l0_3) (hc0_3 : l0_3.length ≤ c0_3) (h : impl_Report.f k l0_0 l0_1 a0_2 l0_3 a1 a2 = some (r1, r2, r3, r4, r5)) :
  Calls Try.prog 18 #[.agg #[.slice A0_0 l0_0.length c0_0, .slice A0_1 l0_1.length c0_1, .int .i64 a0_2, .slice A0_3 l0_3.length c0_3], .int .i64 a1, .bool a2] w fun e w' => ∃ v0_ v1_ v3_ : Value, e = .returned (.tuple #[.agg #[v0_, v1_, .int .i64 r3, v3_], .bool r5]) ∧ Kd.S k39 39 w' w.heap.size (fun k_ => some k_ ≠ (v1_ : Value).ownBlock) v0_ r1 ∧ Kd.R (Kd.int .i64) 2 w' w.heap.size (fun _ => True) v1_ r2 ∧ Kd.R k43 43 w' w.heap.size (fun _ => True) v3_ r4 ∧ Below w.heap.size w w' := by
 have hu31 := Try.underlying31; have HR0_0 := mk_ hr0_0; have HC0_0 := mk_ hc0_0; clear hr0_0 hc0_0; have HR0_1 := mk_ hr0_1; have HC0_1 := mk_ hc0_1; clear hr0_1 hc0_1; have HR0_3 := mk_ hr0_3; have HC0_3 := mk_ hc0_3; clear hr0_3 hc0_3
 have HB := mk_ (Below.refl w.heap.size w)
 have H : ((impl_runOk.f k l0_0 l0_1 a0_2 l0_3).bind fun t188 => (if t188 = true then ((impl_copyRun.f k l0_0 l0_1 a0_2 l0_3).bind fun bt189 => ((impl_in.f a1 1 (l0_3.length : Int)).bind fun t200 => (if t200 = true then (if 0 ≤ (wrap64 (a1 - 1)) then (if (wrap64 (a1 - 1)) < (l0_3.length : Int) then (impl_Report.j0 k a1 a2 (((rd_T43 l0_3 (wrap64 (a1 - 1))).f0) != 1) l0_0 l0_1 a0_2 l0_3 bt189.1 bt189.2.1 bt189.2.2.1 bt189.2.2.2) else (none)) else (none)) else (impl_Report.j0 k a1 a2 true l0_0 l0_1 a0_2 l0_3 bt189.1 bt189.2.1 bt189.2.2.1 bt189.2.2.2)))) else (some (([] : List (S39)), ([] : List Int), 0, ([] : List (S43)), false)))) = some (r1, r2, r3, r4, r5) := h
 clear h; replace H := Option.bind_eq_some_iff.mp H
 obtain ⟨t188, A40, H⟩ := H
 (try dsimp only at H)
 have A4 := mk_ A40; clear A40
 by_cases c5 : t188 = true
 ·subst c5
  replace H := ifT_ H; replace H := Option.bind_eq_some_iff.mp H
  obtain ⟨⟨t189, t192, t195, t196⟩, A60, H⟩ := H
  (try dsimp only at H)
  have A6 := mk_ A60; clear A60; have HC7 := mk_ H; clear H
  go_enter Try.func18, Try.ntmps18
  go_upto_region 4 with (first | ((with_reducible refine gate_dst (N := 3) rfl ?_); refine box_event ?hg (N := 3) ?hd (cs := #[.slice A0_0 l0_0.length c0_0, .slice A0_1 l0_1.length c0_1, .int .i64 a0_2, .slice A0_3 l0_3.length c0_3]) (t := 31) ?hr ?_; (case hd => rfl); (case hg => rfl); (case hr => first | (go_simp; done) | (go_simp; rfl)); intro gb186 hg w8 hbox hb; have BK186 := mk_ (hbox); have GW186 := gE_ HB hg; have GE186 := gE_ HB hg; replace HB := bS_ HB hb; clear hb hbox hg) | ((with_reducible refine gate_dst (N := 6) rfl ?_); refine box_event ?hg (N := 6) ?hd (cs := #[.slice none 0 0, .slice none 0 0, .int .i64 0, .slice none 0 0]) (t := 31) ?hr ?_; (case hd => rfl); (case hg => rfl); (case hr => first | (go_simp; done) | (go_simp; rfl)); intro gb187 hg w9 hbox hb; have BK187 := mk_ (hbox); have GW187 := gE_ HB hg; have GE187 := gE_ HB hg; replace HB := bS_ HB hb; have NB186_187 := nL_ BK186 hg; have NB187_186 := nG_ BK186 hg; replace BK186 := bB_ BK186 hb; clear hb hbox hg; have hnb10 := NB186_187.out; have hnc10 := NB187_186.out; obtain ⟨hcz11_0, hcz11_1, hcz11_2, hcz11_3, hfz11_0, hfz11_1, hfz11_2, hfz11_3⟩ := cf4_ BK186) | (go_at_call 48; (with_reducible refine (impl_runOk.calls k _ _ l0_0 _ _ l0_1 a0_2 _ _ l0_3 true _ ?side1 ?side2 ?side3 ?side4 ?side5 ?side6 A4.out).mono ?_); (case side1 => exact cB_ HR0_0 HB); (case side2 => exact HC0_0.out); (case side3 => exact cB_ HR0_1 HB); (case side4 => exact HC0_1.out); (case side5 => exact cB_ HR0_3 HB); (case side6 => exact HC0_3.out); rintro e w12 ⟨rfl, hb⟩; replace BK186 := bB_ BK186 hb; replace BK187 := bB_ BK187 hb; replace HB := bS_ HB hb; (try clear hb); obtain ⟨hcz13_0, hcz13_1, hcz13_2, hcz13_3, hfz13_0, hfz13_1, hfz13_2, hfz13_3⟩ := cf4_ BK186) | (go_at_call 49; (with_reducible refine (impl_copyRun.calls k _ _ l0_0 _ _ l0_1 a0_2 _ _ l0_3 t189 t192 t195 t196 _ ?side1 ?side2 ?side3 ?side4 ?side5 ?side6 A6.out).mono ?_); (case side1 => exact cB_ HR0_0 HB); (case side2 => exact HC0_0.out); (case side3 => exact cB_ HR0_1 HB); (case side4 => exact HC0_1.out); (case side5 => exact cB_ HR0_3 HB); (case side6 => exact HC0_3.out); rintro e w14 ⟨v190, v193, v197, rfl, ho0, ho1, ho2, hb⟩; have HO191 := sL_ ho0 HB; have HO194 := rL_ ho1 HB; have HO198 := rL_ ho2 HB; replace BK186 := bB_ BK186 hb; replace BK187 := bB_ BK187 hb; replace HB := bS_ HB hb; (try clear hb); (try clear ho0); (try clear ho1); (try clear ho2)) | ((with_reducible refine gate_dst (N := 8) rfl ?_); refine box_event ?hg (N := 8) ?hd (cs := #[.slice none 0 0, .slice none 0 0, .int .i64 0, .slice none 0 0]) (t := 31) ?hr ?_; (case hd => rfl); (case hg => rfl); (case hr => first | (go_simp; done) | (go_simp; rfl)); intro gb199 hg w15 hbox hb; replace HO191 := sB_ HO191 hb; replace HO194 := rB_ HO194 hb; replace HO198 := rB_ HO198 hb; have BK199 := mk_ (hbox); have GW199 := gE_ HB hg; have GE199 := gE_ HB hg; replace HB := bS_ HB hb; have NB186_199 := nL_ BK186 hg; have NB199_186 := nG_ BK186 hg; replace BK186 := bB_ BK186 hb; have NB187_199 := nL_ BK187 hg; have NB199_187 := nG_ BK187 hg; replace BK187 := bB_ BK187 hb; clear hb hbox hg; obtain ⟨Ao16, co16, eo16⟩ := Kd.S_slice HO191.out; subst eo16; have hnb17 := NB199_186.out; have hnc17 := NB186_199.out; have hnb18 := NB199_187.out; have hnc18 := NB187_199.out; obtain ⟨hcz19_0, hcz19_1, hcz19_2, hcz19_3, hfz19_0, hfz19_1, hfz19_2, hfz19_3⟩ := cf4_ BK199; obtain ⟨Ao20, co20, eo20⟩ := Kd.R_slice HO194.out; subst eo20; obtain ⟨Ao21, co21, eo21⟩ := Kd.R_slice HO198.out; subst eo21))
  repeat (go_quiet (fail); go_upto_region 4 with (first | ((with_reducible refine gate_dst (N := 3) rfl ?_); refine box_event ?hg (N := 3) ?hd (cs := #[.slice A0_0 l0_0.length c0_0, .slice A0_1 l0_1.length c0_1, .int .i64 a0_2, .slice A0_3 l0_3.length c0_3]) (t := 31) ?hr ?_; (case hd => rfl); (case hg => rfl); (case hr => first | (go_simp; done) | (go_simp; rfl)); intro gb186 hg w8 hbox hb; have BK186 := mk_ (hbox); have GW186 := gE_ HB hg; have GE186 := gE_ HB hg; replace HB := bS_ HB hb; clear hb hbox hg) | ((with_reducible refine gate_dst (N := 6) rfl ?_); refine box_event ?hg (N := 6) ?hd (cs := #[.slice none 0 0, .slice none 0 0, .int .i64 0, .slice none 0 0]) (t := 31) ?hr ?_; (case hd => rfl); (case hg => rfl); (case hr => first | (go_simp; done) | (go_simp; rfl)); intro gb187 hg w9 hbox hb; have BK187 := mk_ (hbox); have GW187 := gE_ HB hg; have GE187 := gE_ HB hg; replace HB := bS_ HB hb; have NB186_187 := nL_ BK186 hg; have NB187_186 := nG_ BK186 hg; replace BK186 := bB_ BK186 hb; clear hb hbox hg; have hnb10 := NB186_187.out; have hnc10 := NB187_186.out; obtain ⟨hcz11_0, hcz11_1, hcz11_2, hcz11_3, hfz11_0, hfz11_1, hfz11_2, hfz11_3⟩ := cf4_ BK186) | (go_at_call 48; (with_reducible refine (impl_runOk.calls k _ _ l0_0 _ _ l0_1 a0_2 _ _ l0_3 true _ ?side1 ?side2 ?side3 ?side4 ?side5 ?side6 A4.out).mono ?_); (case side1 => exact cB_ HR0_0 HB); (case side2 => exact HC0_0.out); (case side3 => exact cB_ HR0_1 HB); (case side4 => exact HC0_1.out); (case side5 => exact cB_ HR0_3 HB); (case side6 => exact HC0_3.out); rintro e w12 ⟨rfl, hb⟩; replace BK186 := bB_ BK186 hb; replace BK187 := bB_ BK187 hb; replace HB := bS_ HB hb; (try clear hb); obtain ⟨hcz13_0, hcz13_1, hcz13_2, hcz13_3, hfz13_0, hfz13_1, hfz13_2, hfz13_3⟩ := cf4_ BK186) | (go_at_call 49; (with_reducible refine (impl_copyRun.calls k _ _ l0_0 _ _ l0_1 a0_2 _ _ l0_3 t189 t192 t195 t196 _ ?side1 ?side2 ?side3 ?side4 ?side5 ?side6 A6.out).mono ?_); (case side1 => exact cB_ HR0_0 HB); (case side2 => exact HC0_0.out); (case side3 => exact cB_ HR0_1 HB); (case side4 => exact HC0_1.out); (case side5 => exact cB_ HR0_3 HB); (case side6 => exact HC0_3.out); rintro e w14 ⟨v190, v193, v197, rfl, ho0, ho1, ho2, hb⟩; have HO191 := sL_ ho0 HB; have HO194 := rL_ ho1 HB; have HO198 := rL_ ho2 HB; replace BK186 := bB_ BK186 hb; replace BK187 := bB_ BK187 hb; replace HB := bS_ HB hb; (try clear hb); (try clear ho0); (try clear ho1); (try clear ho2)) | ((with_reducible refine gate_dst (N := 8) rfl ?_); refine box_event ?hg (N := 8) ?hd (cs := #[.slice none 0 0, .slice none 0 0, .int .i64 0, .slice none 0 0]) (t := 31) ?hr ?_; (case hd => rfl); (case hg => rfl); (case hr => first | (go_simp; done) | (go_simp; rfl)); intro gb199 hg w15 hbox hb; replace HO191 := sB_ HO191 hb; replace HO194 := rB_ HO194 hb; replace HO198 := rB_ HO198 hb; have BK199 := mk_ (hbox); have GW199 := gE_ HB hg; have GE199 := gE_ HB hg; replace HB := bS_ HB hb; have NB186_199 := nL_ BK186 hg; have NB199_186 := nG_ BK186 hg; replace BK186 := bB_ BK186 hb; have NB187_199 := nL_ BK187 hg; have NB199_187 := nG_ BK187 hg; replace BK187 := bB_ BK187 hb; clear hb hbox hg; obtain ⟨Ao16, co16, eo16⟩ := Kd.S_slice HO191.out; subst eo16; have hnb17 := NB199_186.out; have hnc17 := NB186_199.out; have hnb18 := NB199_187.out; have hnc18 := NB187_199.out; obtain ⟨hcz19_0, hcz19_1, hcz19_2, hcz19_3, hfz19_0, hfz19_1, hfz19_2, hfz19_3⟩ := cf4_ BK199; obtain ⟨Ao20, co20, eo20⟩ := Kd.R_slice HO194.out; subst eo20; obtain ⟨Ao21, co21, eo21⟩ := Kd.R_slice HO198.out; subst eo21)))
  (try simp only [Act.put, List.setIfInBounds_toArray, List.set_cons_zero, List.set_cons_succ])
  go_cut [31] (fun v31 wc => ∃ (kq : Nat) (x31_6 : Bool), v31 = .bool x31_6 ∧ Aside0 (impl_Report.j0 kq a1 a2 x31_6 l0_0 l0_1 a0_2 l0_3 t189 t192 t195 t196 = some (r1, r2, r3, r4, r5)) ∧ Aside0 (kq ≤ k) ∧ Aside0 (Kd.S k39 39 wc w.heap.size (fun k_ => some k_ ≠ ((.slice Ao20 t192.length co20) : Value).ownBlock) (.slice Ao16 t189.length co16) t189) ∧ Aside0 (Kd.R (Kd.int .i64) 2 wc w.heap.size (fun _ => True) (.slice Ao20 t192.length co20) t192) ∧ Aside0 (Kd.R k43 43 wc w.heap.size (fun _ => True) (.slice Ao21 t196.length co21) t196) ∧ Aside0 (wc.heap[gb186]? = some (.cells #[(.slice A0_0 l0_0.length c0_0), (.slice A0_1 l0_1.length c0_1), .int .i64 a0_2, (.slice A0_3 l0_3.length c0_3)] 31 (0, 0))) ∧ Aside0 (wc.heap[gb187]? = some (.cells #[(.slice none 0 0), (.slice none 0 0), .int .i64 0, (.slice none 0 0)] 31 (0, 0))) ∧ Aside0 (wc.heap[gb199]? = some (.cells #[(.slice Ao16 t189.length co16), (.slice Ao20 t192.length co20), .int .i64 t195, (.slice Ao21 t196.length co21)] 31 (0, 0))) ∧ Aside0 (Below w.heap.size w wc))
  case first =>
   have H := HC7.out; clear HC7; replace H := Option.bind_eq_some_iff.mp H
   obtain ⟨t200, A220, H⟩ := H
   (try dsimp only at H)
   have A22 := mk_ A220; clear A220
   by_cases c23 : t200 = true
   ·subst c23
    replace H := ifT_ H
    obtain ⟨ji24, hji24⟩ : ∃ j_ : Int, (wrap64 (a1 - 1)) = j_ := ⟨_, rfl⟩
    replace H : (if 0 ≤ (ji24) then (if (ji24) < (l0_3.length : Int) then (impl_Report.j0 k a1 a2 (((rd_T43 l0_3 (ji24)).f0) != 1) l0_0 l0_1 a0_2 l0_3 t189 t192 t195 t196) else (none)) else (none)) = some (r1, r2, r3, r4, r5) := by first | (rw [hji24] at H; exact H) | (simp only [hji24] at H ⊢; exact H)
    (try rw [hji24] at A22)
    have hji24w : (IntKind.i64.wrap (a1 - 1)) = ji24 := (i64_w _).trans hji24
    obtain ⟨c25, H⟩ := ifS_ H
    have c25b0 : decide (0 ≤ (ji24)) = true := decide_eq_true c25
    clear c25
    (first | rw [c25b0] | (simp only [i64_w, i32_w]; rw [c25b0]) | skip)
    obtain ⟨c26, H⟩ := ifS_ H
    have c26b0 : decide ((ji24) < (l0_3.length : Int)) = true := decide_eq_true c26
    clear c26; have H' := mk_ H; clear H; have hnb27 := NB186_187.out; have hnc27 := NB187_186.out; have hnb28 := NB186_199.out; have hnc28 := NB199_186.out
    obtain ⟨hcz29_0, hcz29_1, hcz29_2, hcz29_3, hfz29_0, hfz29_1, hfz29_2, hfz29_3⟩ := cf4_ BK186
    have START_ := True.intro
    repeat ((first | go_quiet (first | (go_at_call 52; (with_reducible refine (impl_in.calls a1 1 (l0_3.length : Int) true _ A22.out).mono ?_); rintro e w' ⟨rfl, ⟨nd, rfl⟩⟩; (try exact dN_); have p201 : 0 ≤ ((ji24) : Int) := dA_; have q201 : (ji24) < (l0_3.length : Int) := dA_; obtain ⟨ad201, e201, hx201_0, hx201_1⟩ := at_T43 HR0_3.out (ji24) p201 q201; cases e201; have hn201_0 : ad201.block ≠ gb199 := bn_ hx201_0 GW199; have hn201_1 : ad201.block ≠ gb199 := bn_ hx201_0 GW199; have hn201_2 : ad201.block ≠ gb199 := bn_ hx201_0 GW199; have hn201_3 : ad201.block ≠ gb199 := bn_ hx201_0 GW199; replace hx201_0 := hX_ HB hx201_0; replace hx201_1 := hX_ HB hx201_1; replace hx201_0 := cFr_ hx201_0 ⟨gb199, 0, none⟩ (.slice Ao16 t189.length co16) hn201_0; replace hx201_1 := cFr_ hx201_1 ⟨gb199, 0, none⟩ (.slice Ao16 t189.length co16) hn201_0; replace hx201_0 := cFr_ hx201_0 ⟨gb199, 1, none⟩ (.slice Ao20 t192.length co20) hn201_1; replace hx201_1 := cFr_ hx201_1 ⟨gb199, 1, none⟩ (.slice Ao20 t192.length co20) hn201_1; replace hx201_0 := cFr_ hx201_0 ⟨gb199, 2, none⟩ (.int .i64 t195) hn201_2; replace hx201_1 := cFr_ hx201_1 ⟨gb199, 2, none⟩ (.int .i64 t195) hn201_2; replace hx201_0 := cFr_ hx201_0 ⟨gb199, 3, none⟩ (.slice Ao21 t196.length co21) hn201_3; replace hx201_1 := cFr_ hx201_1 ⟨gb199, 3, none⟩ (.slice Ao21 t196.length co21) hn201_3; (try have hy201_0 := fun (n_ : Nat) => (show ((((((w15.drewN n_).setCell ⟨gb199, 0, none⟩ (.slice Ao16 t189.length co16)).setCell ⟨gb199, 1, none⟩ (.slice Ao20 t192.length co20)).setCell ⟨gb199, 2, none⟩ (.int .i64 t195)).setCell ⟨gb199, 3, none⟩ (.slice Ao21 t196.length co21))).cell? _ = some _ from hx201_0)); (try have hy201_1 := fun (n_ : Nat) => (show ((((((w15.drewN n_).setCell ⟨gb199, 0, none⟩ (.slice Ao16 t189.length co16)).setCell ⟨gb199, 1, none⟩ (.slice Ao20 t192.length co20)).setCell ⟨gb199, 2, none⟩ (.int .i64 t195)).setCell ⟨gb199, 3, none⟩ (.slice Ao21 t196.length co21))).cell? _ = some _ from hx201_1)); clear hn201_0; clear hn201_1; clear hn201_2; clear hn201_3; replace p201 := eq_true p201; replace q201 := eq_true q201)) | clear START_); try go_wp2_with (first | (go_at_call 52; (with_reducible refine (impl_in.calls a1 1 (l0_3.length : Int) true _ A22.out).mono ?_); rintro e w' ⟨rfl, ⟨nd, rfl⟩⟩; (try exact dN_); have p201 : 0 ≤ ((ji24) : Int) := dA_; have q201 : (ji24) < (l0_3.length : Int) := dA_; obtain ⟨ad201, e201, hx201_0, hx201_1⟩ := at_T43 HR0_3.out (ji24) p201 q201; cases e201; have hn201_0 : ad201.block ≠ gb199 := bn_ hx201_0 GW199; have hn201_1 : ad201.block ≠ gb199 := bn_ hx201_0 GW199; have hn201_2 : ad201.block ≠ gb199 := bn_ hx201_0 GW199; have hn201_3 : ad201.block ≠ gb199 := bn_ hx201_0 GW199; replace hx201_0 := hX_ HB hx201_0; replace hx201_1 := hX_ HB hx201_1; replace hx201_0 := cFr_ hx201_0 ⟨gb199, 0, none⟩ (.slice Ao16 t189.length co16) hn201_0; replace hx201_1 := cFr_ hx201_1 ⟨gb199, 0, none⟩ (.slice Ao16 t189.length co16) hn201_0; replace hx201_0 := cFr_ hx201_0 ⟨gb199, 1, none⟩ (.slice Ao20 t192.length co20) hn201_1; replace hx201_1 := cFr_ hx201_1 ⟨gb199, 1, none⟩ (.slice Ao20 t192.length co20) hn201_1; replace hx201_0 := cFr_ hx201_0 ⟨gb199, 2, none⟩ (.int .i64 t195) hn201_2; replace hx201_1 := cFr_ hx201_1 ⟨gb199, 2, none⟩ (.int .i64 t195) hn201_2; replace hx201_0 := cFr_ hx201_0 ⟨gb199, 3, none⟩ (.slice Ao21 t196.length co21) hn201_3; replace hx201_1 := cFr_ hx201_1 ⟨gb199, 3, none⟩ (.slice Ao21 t196.length co21) hn201_3; (try have hy201_0 := fun (n_ : Nat) => (show ((((((w15.drewN n_).setCell ⟨gb199, 0, none⟩ (.slice Ao16 t189.length co16)).setCell ⟨gb199, 1, none⟩ (.slice Ao20 t192.length co20)).setCell ⟨gb199, 2, none⟩ (.int .i64 t195)).setCell ⟨gb199, 3, none⟩ (.slice Ao21 t196.length co21))).cell? _ = some _ from hx201_0)); (try have hy201_1 := fun (n_ : Nat) => (show ((((((w15.drewN n_).setCell ⟨gb199, 0, none⟩ (.slice Ao16 t189.length co16)).setCell ⟨gb199, 1, none⟩ (.slice Ao20 t192.length co20)).setCell ⟨gb199, 2, none⟩ (.int .i64 t195)).setCell ⟨gb199, 3, none⟩ (.slice Ao21 t196.length co21))).cell? _ = some _ from hx201_1)); clear hn201_0; clear hn201_1; clear hn201_2; clear hn201_3; replace p201 := eq_true p201; replace q201 := eq_true q201)))
    (try subst hji24)
    go_meet
    case rel => exact ⟨_, ((((rd_T43 l0_3 ((wrap64 (a1 - 1)))).f0) != 1)), (by first | rfl | (simp; done) | (simp only [← hji24] <;> (first | rfl | simp)) | (simp [*]; done)), H', ⟨by first | omega | exact Nat.le_refl _⟩, ⟨sFM_ HO191 BK199⟩, ⟨rFM_ HO194 BK199⟩, ⟨rFM_ HO198 BK199⟩, ⟨bF_ BK186 NB186_199⟩, ⟨bF_ BK187 NB187_199⟩, ⟨bP_ BK199⟩, ⟨sABelo_9⟩⟩
   ·replace c23 := Bool.eq_false_iff.mpr c23
    subst c23
    replace H := ifF_ H; have H' := mk_ H; clear H; have hnb30 := NB186_187.out; have hnc30 := NB187_186.out; have hnb31 := NB186_199.out; have hnc31 := NB199_186.out
    obtain ⟨hcz32_0, hcz32_1, hcz32_2, hcz32_3, hfz32_0, hfz32_1, hfz32_2, hfz32_3⟩ := cf4_ BK186
    have START_ := True.intro
    repeat ((first | go_quiet (first | (go_at_call 52; (with_reducible refine (impl_in.calls a1 1 (l0_3.length : Int) false _ A22.out).mono ?_); rintro e w' ⟨rfl, ⟨nd, rfl⟩⟩; (try exact dN_))) | clear START_); try go_wp2_with (first | (go_at_call 52; (with_reducible refine (impl_in.calls a1 1 (l0_3.length : Int) false _ A22.out).mono ?_); rintro e w' ⟨rfl, ⟨nd, rfl⟩⟩; (try exact dN_))))
    go_meet
    case rel => exact ⟨_, (true), eS_, H', ⟨by first | omega | exact Nat.le_refl _⟩, ⟨sFM_ HO191 BK199⟩, ⟨rFM_ HO194 BK199⟩, ⟨rFM_ HO198 BK199⟩, ⟨bF_ BK186 NB186_199⟩, ⟨bF_ BK187 NB187_199⟩, ⟨bP_ BK199⟩, ⟨sABelo_9⟩⟩
  case rest =>
   clear HC7; (try clear c5); (try clear hcz11_0); (try clear hcz11_1); (try clear hcz11_2); (try clear hcz11_3); (try clear hcz13_0); (try clear hcz13_1); (try clear hcz13_2); (try clear hcz13_3); (try clear hcz19_0); (try clear hcz19_1); (try clear hcz19_2); (try clear hcz19_3); (try clear hfz11_0); (try clear hfz11_1); (try clear hfz11_2); (try clear hfz11_3); (try clear hfz13_0); (try clear hfz13_1); (try clear hfz13_2); (try clear hfz13_3); (try clear hfz19_0); (try clear hfz19_1); (try clear hfz19_2); (try clear hfz19_3)
   obtain ⟨kq, x31_6, rfl, HA, HJ6, HO_200000, HO_200001, HO_200003, BK186, BK187, BK199, HB⟩ := hcut
   cases kq with
   | zero => exact absurd HA.out (by simp [impl_Report.j0])
   | succ kj6 =>
    have H := HA.out; clear HA
    simp only [impl_Report.j0] at H
    by_cases c33 : x31_6 = true
    ·subst c33
     replace H := ifT_ H
     simp only [Option.some.injEq, Prod.mk.injEq] at H
     obtain ⟨rfl, rfl, rfl, rfl, rfl⟩ := H
     have hnb34 := NB199_186.out; have hnc34 := NB186_199.out; have hnb35 := NB199_187.out; have hnc35 := NB187_199.out
     obtain ⟨hcz36_0, hcz36_1, hcz36_2, hcz36_3, hfz36_0, hfz36_1, hfz36_2, hfz36_3⟩ := cf4_ BK199; have hnb37 := NB187_186.out; have hnc37 := NB186_187.out
     obtain ⟨hcz38_0, hcz38_1, hcz38_2, hcz38_3, hfz38_0, hfz38_1, hfz38_2, hfz38_3⟩ := cf4_ BK187
     go_wp2
     repeat (go_quiet (fail); try go_wp2)
     refine bodyPost_ret (results_ct rfl _ _ gb187 31 #[.slice Ao16 t189.length co16, .slice Ao20 t192.length co20, .int .i64 t195, .slice Ao21 t196.length co21] (0, 0) _ rfl (bP_ BK187) Try.underlying31 rfl (by kernel_rfl)) rfl ?_
     exact ⟨_, _, _, eW_, by (with_reducible repeat (first | apply Kd.S_alloc | apply Kd.S_drewN | apply Kd.S_drew)); exact Kd.S_mono (Kd.S_far (p := ⟨gb187, 3, none⟩) (Kd.S_far (p := ⟨gb187, 2, none⟩) (Kd.S_far (p := ⟨gb187, 1, none⟩) (Kd.S_far (p := ⟨gb187, 0, none⟩) (Kd.S_types HO_200000.out BK187.out (by decide)) (fun _ hk => hk.2) (.slice Ao16 t189.length co16)) (fun _ hk => hk.2) (.slice Ao20 t192.length co20)) (fun _ hk => hk.2) (.int .i64 t195)) (fun _ hk => hk.2) (.slice Ao21 t196.length co21)) (fun _ hk => hk.1), by (with_reducible repeat (first | apply Kd.R_alloc | apply Kd.R_drewN | apply Kd.R_drew)); exact Kd.R_mono (Kd.R_far (p := ⟨gb187, 3, none⟩) (Kd.R_far (p := ⟨gb187, 2, none⟩) (Kd.R_far (p := ⟨gb187, 1, none⟩) (Kd.R_far (p := ⟨gb187, 0, none⟩) (Kd.R_types HO_200001.out BK187.out (by decide)) (fun _ hk => hk.2) (.slice Ao16 t189.length co16)) (fun _ hk => hk.2) (.slice Ao20 t192.length co20)) (fun _ hk => hk.2) (.int .i64 t195)) (fun _ hk => hk.2) (.slice Ao21 t196.length co21)) (fun _ hk => trivial), by (with_reducible repeat (first | apply Kd.R_alloc | apply Kd.R_drewN | apply Kd.R_drew)); exact Kd.R_mono (Kd.R_far (p := ⟨gb187, 3, none⟩) (Kd.R_far (p := ⟨gb187, 2, none⟩) (Kd.R_far (p := ⟨gb187, 1, none⟩) (Kd.R_far (p := ⟨gb187, 0, none⟩) (Kd.R_types HO_200003.out BK187.out (by decide)) (fun _ hk => hk.2) (.slice Ao16 t189.length co16)) (fun _ hk => hk.2) (.slice Ao20 t192.length co20)) (fun _ hk => hk.2) (.int .i64 t195)) (fun _ hk => hk.2) (.slice Ao21 t196.length co21)) (fun _ hk => trivial), sABelo_9⟩
    ·replace c33 := Bool.eq_false_iff.mpr c33
     subst c33
     replace H := ifF_ H
     by_cases c39 : a2 = true
     ·subst c39
      replace H := ifT_ H
      obtain ⟨ji40, hji40⟩ : ∃ j_ : Int, (wrap64 (a1 - 1)) = j_ := ⟨_, rfl⟩
      replace H : (if 0 ≤ (ji40) then (if (ji40) < (t196.length : Int) then (some (t189, t192, t195, (t196.set ((ji40) : Int).toNat (⟨2, (rd_T43 t196 (ji40)).f1⟩ : S43)), true)) else (none)) else (none)) = some (r1, r2, r3, r4, r5) := by first | (rw [hji40] at H; exact H) | (simp only [hji40] at H ⊢; exact H)
      have hji40w : (IntKind.i64.wrap (a1 - 1)) = ji40 := (i64_w _).trans hji40
      obtain ⟨c41, H⟩ := ifS_ H
      have c41b0 : decide (0 ≤ (ji40)) = true := decide_eq_true c41
      clear c41
      obtain ⟨c42, H⟩ := ifS_ H
      have c42b0 : decide ((ji40) < (t196.length : Int)) = true := decide_eq_true c42
      clear c42
      obtain ⟨y202, hy202⟩ : ∃ y_ : List (S43), y_ = (t196.set ((ji40) : Int).toNat (⟨2, (rd_T43 t196 (ji40)).f1⟩ : S43)) := ⟨_, rfl⟩
      replace H : (some (t189, t192, t195, y202, true)) = some (r1, r2, r3, r4, r5) := by first | (rw [hy202]; with_reducible exact H) | (have H2_ := (Option.bind_some _ _).symm.trans H; rw [hy202]; with_reducible exact H2_) | (have H2_ := (Option.bind_some _ _).symm.trans H; with_reducible exact H2_) | with_reducible exact H | (rw [hy202]; exact H) | exact H
      have Ny202 := mk_ hy202; clear hy202
      simp only [Option.some.injEq, Prod.mk.injEq] at H
      obtain ⟨rfl, rfl, rfl, rfl, rfl⟩ := H
      have hnb44 := NB199_186.out; have hnc44 := NB186_199.out; have hnb45 := NB199_187.out; have hnc45 := NB187_199.out
      obtain ⟨hcz46_0, hcz46_1, hcz46_2, hcz46_3, hfz46_0, hfz46_1, hfz46_2, hfz46_3⟩ := cf4_ BK199
      have p43 : 0 ≤ ((ji40) : Int) := dA_
      have q43 : ((ji40) : Int) < ((t196.length : Int) : Int) := dA_
      obtain ⟨go43, co43, eo43, gb43, gl43, cl43, HG43⟩ := Kd.R_form HO_200003.out (by omega)
      (first | cases eo43 | (injection eo43 with ea_ en_ ec_; (first | subst ea_ | (injection ea_ with ea_; subst ea_)); subst ec_; clear en_))
      have GB43 := mk_ gb43; have GG43 := mk_ HG43; clear gb43 gl43 HG43
      obtain ⟨ce43, hcl43, hM43, hcc43, hfr43⟩ := Kd.R_elem HO_200003.out z43 ((ji40) : Int) p43 q43
      obtain rfl := k43_openM hM43
      have hx43_0 : wc.cell? ⟨go43, ((ji40) : Int).toNat * 2, none⟩ = some (.int .i64 ((rd_T43 t196 (ji40)).f0)) := hcc43 0 _ rfl
      have hx43_1 : wc.cell? ⟨go43, ((ji40) : Int).toNat * 2 + 1, none⟩ = some (.int .i64 ((rd_T43 t196 (ji40)).f1)) := hcc43 1 _ rfl
      have hf43_0 : wc.frozen? ⟨go43, ((ji40) : Int).toNat * 2, none⟩ = false := hfr43 0
      have hf43_1 : wc.frozen? ⟨go43, ((ji40) : Int).toNat * 2 + 1, none⟩ = false := hfr43 1
      clear hcl43 hcc43 hfr43 hM43; replace p43 := eq_true p43; replace q43 := eq_true q43
      have HX47 := mk_ (show Kd.R k43 43 wc w.heap.size (fun _ => True) (.slice (some ⟨go43, 0, none⟩) t196.length co21) t196 from (rT_ HO_200003))
      obtain ⟨ce47, hcl47, hM47, hcc47, hfr47⟩ := Kd.R_elem HX47.out z43 ((ji40) : Int) dA_ (by have h_ : ((ji40) : Int) < ((t196.length : Int) : Int) := dA_; first | exact h_ | (have e_ := (Kd.R_reads' HO_200003.out).1; omega) | simpa using h_)
      obtain rfl := k43_openM hM47
      have HP47 := Kd.R_seg HX47.out ((ji40) : Int) dA_ (by have h_ : ((ji40) : Int) < ((t196.length : Int) : Int) := dA_; first | exact h_ | (have e_ := (Kd.R_reads' HO_200003.out).1; omega) | simpa using h_) (seg := [.int .i64 2]) (j := 0) hcl47 hcc47 (show 1 ≤ 2 from by decide) (x' := (⟨2, (rd_T43 t196 (ji40)).f1⟩ : S43)) (k43_mkM _ _ _ (⟨2, (rd_T43 t196 (ji40)).f1⟩ : S43) ) (fun _ hk => hk)
      have hx47_0 := hcc47 0 _ rfl
      (try simp only [show (k43).sz = 2 from rfl, Nat.mul_one, Nat.add_zero] at hx47_0)
      have hf47_0 := hfr47 0
      (try simp only [show (k43).sz = 2 from rfl, Nat.mul_one, Nat.add_zero] at hf47_0)
      clear hcl47 hcc47 hfr47 hM47
      have START_ := True.intro
      repeat ((first | go_quiet (fail) | clear START_); try go_wp2_with (first | ((with_reducible refine gate_store (t := 2) (p := 45) rfl ?_); (try (rw [drewN_self wc]; generalize hq_ : World.drewN wc _ = wc; have n0_ := mk_ (Kd.S_at hq_ HO_200000.out); have n1_ := mk_ (Kd.R_at hq_ HO_200001.out); have n2_ := mk_ (Kd.R_at hq_ HO_200003.out); have n3_ := mk_ (blk_at hq_ BK186.out); have n4_ := mk_ (blk_at hq_ BK187.out); have n5_ := mk_ (blk_at hq_ BK199.out); have n6_ := mk_ (below_at hq_ HB.out); clear hq_ HO_200000 HO_200001 HO_200003 BK186 BK187 BK199 HB; have HO_200000 := n0_; have HO_200001 := n1_; have HO_200003 := n2_; have BK186 := n3_; have BK187 := n4_; have BK199 := n5_; have HB := n6_; clear n0_ n1_ n2_ n3_ n4_ n5_ n6_; (try (have HX47 := mk_ (show Kd.R k43 43 wc w.heap.size (fun _ => True) (.slice (some ⟨go43, 0, none⟩) t196.length co21) t196 from (rT_ HO_200003)))); (try (obtain ⟨ce47, hcl47, hM47, hcc47, hfr47⟩ := Kd.R_elem HX47.out z43 ((ji40) : Int) dA_ (by have h_ : ((ji40) : Int) < ((t196.length : Int) : Int) := dA_; first | exact h_ | (have e_ := (Kd.R_reads' HO_200003.out).1; omega) | simpa using h_))); (try (obtain rfl := k43_openM hM47)); (try (have HP47 := Kd.R_seg HX47.out ((ji40) : Int) dA_ (by have h_ : ((ji40) : Int) < ((t196.length : Int) : Int) := dA_; first | exact h_ | (have e_ := (Kd.R_reads' HO_200003.out).1; omega) | simpa using h_) (seg := [.int .i64 2]) (j := 0) hcl47 hcc47 (show 1 ≤ 2 from by decide) (x' := (⟨2, (rd_T43 t196 (ji40)).f1⟩ : S43)) (k43_mkM _ _ _ (⟨2, (rd_T43 t196 (ji40)).f1⟩ : S43) ) (fun _ hk => hk))); (try (have hx47_0 := hcc47 0 _ rfl)); (try (try simp only [show (k43).sz = 2 from rfl, Nat.mul_one, Nat.add_zero] at hx47_0)); (try (have hf47_0 := hfr47 0)); (try (try simp only [show (k43).sz = 2 from rfl, Nat.mul_one, Nat.add_zero] at hf47_0)); (try (clear hcl47 hcc47 hfr47 hM47)))); refine store_event (t := 2) (p := 45) (v := ?vo_w48) (w1 := (wc.setCell ⟨go43, ((ji40) : Int).toNat * 2, none⟩ (.int .i64 2))) ?hg ?ho ?hn ?hr ?_; (case ho => rfl); (case hg => rfl); (case hn => rfl); (case hr => first | (go_simp; done) | (go_simp; rfl)); intro w48 hw; have hg : wc.grownBy w48 (some go43) := (by rw [hw]; exact HP47.2); have hp_ : Kd.R k43 43 w48 w.heap.size (fun _ => True) (.slice (some ⟨go43, 0, none⟩) t196.length co21) y202 := (by rw [hw, Ny202.out]; exact HP47.1); clear HP47; replace HO_200000 := mk_ (Kd.S_over' (v := (.slice (some ⟨go43, 0, none⟩) t196.length co21)) (sT_ HO_200000) (Kd.R_typed HO_200003.out) (by decide) hg); replace HO_200001 := mk_ (Kd.R_over' (v := (.slice (some ⟨go43, 0, none⟩) t196.length co21)) (rT_ HO_200001) (Kd.R_typed HO_200003.out) (by decide) hg); replace BK186 := mk_ (blk_grown (bT_ BK186) hg (Kd.R_ne HO_200003.out BK186.out (by decide))); replace BK187 := mk_ (blk_grown (bT_ BK187) hg (Kd.R_ne HO_200003.out BK187.out (by decide))); replace BK199 := mk_ (blk_grown (bT_ BK199) hg (Kd.R_ne HO_200003.out BK199.out (by decide))); replace HO_200003 := mk_ (hp_); replace HB := mk_ ((by rw [hw]; exact below_set (HB.out) GB43.out : Below w.heap.size w w48)); clear hg hw hp_; obtain ⟨hcz49_0, hcz49_1, hcz49_2, hcz49_3, hfz49_0, hfz49_1, hfz49_2, hfz49_3⟩ := cf4_ BK199; have hnb50 := NB187_186.out; have hnc50 := NB186_187.out; obtain ⟨hcz51_0, hcz51_1, hcz51_2, hcz51_3, hfz51_0, hfz51_1, hfz51_2, hfz51_3⟩ := cf4_ BK187)))
      refine bodyPost_ret (results_ct rfl _ _ gb187 31 #[.slice Ao16 t189.length co16, .slice Ao20 t192.length co20, .int .i64 t195, .slice (some ⟨go43, 0, none⟩) t196.length co21] (0, 0) _ rfl (bP_ BK187) Try.underlying31 rfl (by kernel_rfl)) rfl ?_
      exact ⟨_, _, _, by first | rfl | (simp [errW_none, errW_some] <;> rfl) | (simp only [← hji40]; first | rfl | (simp [errW_none, errW_some] <;> rfl)) | (simp [*, errW_none, errW_some] <;> rfl), by (with_reducible repeat (first | apply Kd.S_alloc | apply Kd.S_drewN | apply Kd.S_drew)); exact Kd.S_mono (Kd.S_far (p := ⟨gb187, 3, none⟩) (Kd.S_far (p := ⟨gb187, 2, none⟩) (Kd.S_far (p := ⟨gb187, 1, none⟩) (Kd.S_far (p := ⟨gb187, 0, none⟩) (Kd.S_types HO_200000.out BK187.out (by decide)) (fun _ hk => hk.2) (.slice Ao16 t189.length co16)) (fun _ hk => hk.2) (.slice Ao20 t192.length co20)) (fun _ hk => hk.2) (.int .i64 t195)) (fun _ hk => hk.2) (.slice (some ⟨go43, 0, none⟩) t196.length co21)) (fun _ hk => hk.1), by (with_reducible repeat (first | apply Kd.R_alloc | apply Kd.R_drewN | apply Kd.R_drew)); exact Kd.R_mono (Kd.R_far (p := ⟨gb187, 3, none⟩) (Kd.R_far (p := ⟨gb187, 2, none⟩) (Kd.R_far (p := ⟨gb187, 1, none⟩) (Kd.R_far (p := ⟨gb187, 0, none⟩) (Kd.R_types HO_200001.out BK187.out (by decide)) (fun _ hk => hk.2) (.slice Ao16 t189.length co16)) (fun _ hk => hk.2) (.slice Ao20 t192.length co20)) (fun _ hk => hk.2) (.int .i64 t195)) (fun _ hk => hk.2) (.slice (some ⟨go43, 0, none⟩) t196.length co21)) (fun _ hk => trivial), by (with_reducible repeat (first | apply Kd.R_alloc | apply Kd.R_drewN | apply Kd.R_drew)); exact Kd.R_mono (Kd.R_far (p := ⟨gb187, 3, none⟩) (Kd.R_far (p := ⟨gb187, 2, none⟩) (Kd.R_far (p := ⟨gb187, 1, none⟩) (Kd.R_far (p := ⟨gb187, 0, none⟩) (Kd.R_types HO_200003.out BK187.out (by decide)) (fun _ hk => hk.2) (.slice Ao16 t189.length co16)) (fun _ hk => hk.2) (.slice Ao20 t192.length co20)) (fun _ hk => hk.2) (.int .i64 t195)) (fun _ hk => hk.2) (.slice (some ⟨go43, 0, none⟩) t196.length co21)) (fun _ hk => trivial), sABelo_9⟩
     ·replace c39 := Bool.eq_false_iff.mpr c39
      subst c39
      replace H := ifF_ H
      obtain ⟨ji52, hji52⟩ : ∃ j_ : Int, (wrap64 (a1 - 1)) = j_ := ⟨_, rfl⟩
      replace H : (if 0 ≤ (ji52) then (if (ji52) < (t196.length : Int) then (if (ji52) < (l0_0.length : Int) then (if ((rd_T43 t196 (ji52)).f1) = ((rd_T39 l0_0 (ji52)).f3) then (some (t189, t192, t195, (t196.set ((ji52) : Int).toNat (⟨3, (rd_T43 t196 (ji52)).f1⟩ : S43)), true)) else (some (t189, t192, t195, (t196.set ((ji52) : Int).toNat (⟨0, (rd_T43 t196 (ji52)).f1⟩ : S43)), true))) else (none)) else (none)) else (none)) = some (r1, r2, r3, r4, r5) := by first | (rw [hji52] at H; exact H) | (simp only [hji52] at H ⊢; exact H)
      have hji52w : (IntKind.i64.wrap (a1 - 1)) = ji52 := (i64_w _).trans hji52
      obtain ⟨c53, H⟩ := ifS_ H
      have c53b0 : decide (0 ≤ (ji52)) = true := decide_eq_true c53
      clear c53
      obtain ⟨c54, H⟩ := ifS_ H
      have c54b0 : decide ((ji52) < (t196.length : Int)) = true := decide_eq_true c54
      clear c54
      obtain ⟨c55, H⟩ := ifS_ H
      have c55b0 : decide ((ji52) < (l0_0.length : Int)) = true := decide_eq_true c55
      clear c55
      by_cases c56 : ((rd_T43 t196 (ji52)).f1) = ((rd_T39 l0_0 (ji52)).f3)
      ·rw [if_pos c56] at H
       have c56b0 := beq_iff_eq.mpr c56
       have c56b1 := bne_eq_false_iff_eq.mpr c56
       clear c56
       obtain ⟨y205, hy205⟩ : ∃ y_ : List (S43), y_ = (t196.set ((ji52) : Int).toNat (⟨3, (rd_T43 t196 (ji52)).f1⟩ : S43)) := ⟨_, rfl⟩
       replace H : (some (t189, t192, t195, y205, true)) = some (r1, r2, r3, r4, r5) := by first | (rw [hy205]; with_reducible exact H) | (have H2_ := (Option.bind_some _ _).symm.trans H; rw [hy205]; with_reducible exact H2_) | (have H2_ := (Option.bind_some _ _).symm.trans H; with_reducible exact H2_) | with_reducible exact H | (rw [hy205]; exact H) | exact H
       have Ny205 := mk_ hy205; clear hy205
       simp only [Option.some.injEq, Prod.mk.injEq] at H
       obtain ⟨rfl, rfl, rfl, rfl, rfl⟩ := H
       have hnb58 := NB199_186.out; have hnc58 := NB186_199.out; have hnb59 := NB199_187.out; have hnc59 := NB187_199.out
       obtain ⟨hcz60_0, hcz60_1, hcz60_2, hcz60_3, hfz60_0, hfz60_1, hfz60_2, hfz60_3⟩ := cf4_ BK199
       have p203 : 0 ≤ ((ji52) : Int) := dA_
       have q203 : (ji52) < (t196.length : Int) := dA_
       obtain ⟨ad203, e203, hx203_0, hx203_1⟩ := at_T43 (Kd.R_reads' HO_200003.out).2.2 (ji52) p203 q203
       cases e203
       replace p203 := eq_true p203; replace q203 := eq_true q203; have hnb61 := NB186_187.out; have hnc61 := NB187_186.out
       obtain ⟨hcz62_0, hcz62_1, hcz62_2, hcz62_3, hfz62_0, hfz62_1, hfz62_2, hfz62_3⟩ := cf4_ BK186
       have p204 : 0 ≤ ((ji52) : Int) := dA_
       have q204 : (ji52) < (l0_0.length : Int) := dA_
       obtain ⟨ad204, A204_0, c204_0, e204, hx204_0, hx204_1, hx204_2, hx204_3, hl204_0, hi204_0⟩ := at_T39 HR0_0.out (ji52) p204 q204
       cases e204
       replace hx204_0 := hX_ HB hx204_0
       replace hx204_1 := hX_ HB hx204_1
       replace hx204_2 := hX_ HB hx204_2
       replace hx204_3 := hX_ HB hx204_3
       have HR204_0 := mk_ hi204_0; have HC204_0 := mk_ hl204_0; clear hi204_0 hl204_0; replace p204 := eq_true p204; replace q204 := eq_true q204
       have p57 : 0 ≤ ((ji52) : Int) := dA_
       have q57 : ((ji52) : Int) < ((t196.length : Int) : Int) := dA_
       obtain ⟨go57, co57, eo57, gb57, gl57, cl57, HG57⟩ := Kd.R_form HO_200003.out (by omega)
       (first | cases eo57 | (injection eo57 with ea_ en_ ec_; (first | subst ea_ | (injection ea_ with ea_; subst ea_)); subst ec_; clear en_))
       have GB57 := mk_ gb57; have GG57 := mk_ HG57; clear gb57 gl57 HG57
       (first | simp only [add_plain] at hx203_0 | skip)
       (first | simp only [add_plain] at hx203_1 | skip)
       obtain ⟨ce57, hcl57, hM57, hcc57, hfr57⟩ := Kd.R_elem HO_200003.out z43 ((ji52) : Int) p57 q57
       obtain rfl := k43_openM hM57
       have hx57_0 : wc.cell? ⟨go57, ((ji52) : Int).toNat * 2, none⟩ = some (.int .i64 ((rd_T43 t196 (ji52)).f0)) := hcc57 0 _ rfl
       have hx57_1 : wc.cell? ⟨go57, ((ji52) : Int).toNat * 2 + 1, none⟩ = some (.int .i64 ((rd_T43 t196 (ji52)).f1)) := hcc57 1 _ rfl
       have hf57_0 : wc.frozen? ⟨go57, ((ji52) : Int).toNat * 2, none⟩ = false := hfr57 0
       have hf57_1 : wc.frozen? ⟨go57, ((ji52) : Int).toNat * 2 + 1, none⟩ = false := hfr57 1
       clear hcl57 hcc57 hfr57 hM57; replace p57 := eq_true p57; replace q57 := eq_true q57
       have HX63 := mk_ (show Kd.R k43 43 wc w.heap.size (fun _ => True) (.slice (some ⟨go57, 0, none⟩) t196.length co21) t196 from (rT_ HO_200003))
       obtain ⟨ce63, hcl63, hM63, hcc63, hfr63⟩ := Kd.R_elem HX63.out z43 ((ji52) : Int) dA_ (by have h_ : ((ji52) : Int) < ((t196.length : Int) : Int) := dA_; first | exact h_ | (have e_ := (Kd.R_reads' HO_200003.out).1; omega) | simpa using h_)
       obtain rfl := k43_openM hM63
       have HP63 := Kd.R_seg HX63.out ((ji52) : Int) dA_ (by have h_ : ((ji52) : Int) < ((t196.length : Int) : Int) := dA_; first | exact h_ | (have e_ := (Kd.R_reads' HO_200003.out).1; omega) | simpa using h_) (seg := [.int .i64 3]) (j := 0) hcl63 hcc63 (show 1 ≤ 2 from by decide) (x' := (⟨3, (rd_T43 t196 (ji52)).f1⟩ : S43)) (k43_mkM _ _ _ (⟨3, (rd_T43 t196 (ji52)).f1⟩ : S43) ) (fun _ hk => hk)
       have hx63_0 := hcc63 0 _ rfl
       (try simp only [show (k43).sz = 2 from rfl, Nat.mul_one, Nat.add_zero] at hx63_0)
       have hf63_0 := hfr63 0
       (try simp only [show (k43).sz = 2 from rfl, Nat.mul_one, Nat.add_zero] at hf63_0)
       clear hcl63 hcc63 hfr63 hM63
       have START_ := True.intro
       repeat ((first | go_quiet (fail) | clear START_); try go_wp2_with (first | ((with_reducible refine gate_store (t := 2) (p := 62) rfl ?_); (try (rw [drewN_self wc]; generalize hq_ : World.drewN wc _ = wc; have n0_ := mk_ (Kd.S_at hq_ HO_200000.out); have n1_ := mk_ (Kd.R_at hq_ HO_200001.out); have n2_ := mk_ (Kd.R_at hq_ HO_200003.out); have n3_ := mk_ (blk_at hq_ BK186.out); have n4_ := mk_ (blk_at hq_ BK187.out); have n5_ := mk_ (blk_at hq_ BK199.out); have n6_ := mk_ (below_at hq_ HB.out); clear hq_ HO_200000 HO_200001 HO_200003 BK186 BK187 BK199 HB; have HO_200000 := n0_; have HO_200001 := n1_; have HO_200003 := n2_; have BK186 := n3_; have BK187 := n4_; have BK199 := n5_; have HB := n6_; clear n0_ n1_ n2_ n3_ n4_ n5_ n6_; (try (have HX63 := mk_ (show Kd.R k43 43 wc w.heap.size (fun _ => True) (.slice (some ⟨go57, 0, none⟩) t196.length co21) t196 from (rT_ HO_200003)))); (try (obtain ⟨ce63, hcl63, hM63, hcc63, hfr63⟩ := Kd.R_elem HX63.out z43 ((ji52) : Int) dA_ (by have h_ : ((ji52) : Int) < ((t196.length : Int) : Int) := dA_; first | exact h_ | (have e_ := (Kd.R_reads' HO_200003.out).1; omega) | simpa using h_))); (try (obtain rfl := k43_openM hM63)); (try (have HP63 := Kd.R_seg HX63.out ((ji52) : Int) dA_ (by have h_ : ((ji52) : Int) < ((t196.length : Int) : Int) := dA_; first | exact h_ | (have e_ := (Kd.R_reads' HO_200003.out).1; omega) | simpa using h_) (seg := [.int .i64 3]) (j := 0) hcl63 hcc63 (show 1 ≤ 2 from by decide) (x' := (⟨3, (rd_T43 t196 (ji52)).f1⟩ : S43)) (k43_mkM _ _ _ (⟨3, (rd_T43 t196 (ji52)).f1⟩ : S43) ) (fun _ hk => hk))); (try (have hx63_0 := hcc63 0 _ rfl)); (try (try simp only [show (k43).sz = 2 from rfl, Nat.mul_one, Nat.add_zero] at hx63_0)); (try (have hf63_0 := hfr63 0)); (try (try simp only [show (k43).sz = 2 from rfl, Nat.mul_one, Nat.add_zero] at hf63_0)); (try (clear hcl63 hcc63 hfr63 hM63)))); refine store_event (t := 2) (p := 62) (v := ?vo_w64) (w1 := (wc.setCell ⟨go57, ((ji52) : Int).toNat * 2, none⟩ (.int .i64 3))) ?hg ?ho ?hn ?hr ?_; (case ho => rfl); (case hg => rfl); (case hn => rfl); (case hr => first | (go_simp; done) | (go_simp; rfl)); intro w64 hw; have hg : wc.grownBy w64 (some go57) := (by rw [hw]; exact HP63.2); have hp_ : Kd.R k43 43 w64 w.heap.size (fun _ => True) (.slice (some ⟨go57, 0, none⟩) t196.length co21) y205 := (by rw [hw, Ny205.out]; exact HP63.1); clear HP63; replace HO_200000 := mk_ (Kd.S_over' (v := (.slice (some ⟨go57, 0, none⟩) t196.length co21)) (sT_ HO_200000) (Kd.R_typed HO_200003.out) (by decide) hg); replace HO_200001 := mk_ (Kd.R_over' (v := (.slice (some ⟨go57, 0, none⟩) t196.length co21)) (rT_ HO_200001) (Kd.R_typed HO_200003.out) (by decide) hg); replace BK186 := mk_ (blk_grown (bT_ BK186) hg (Kd.R_ne HO_200003.out BK186.out (by decide))); replace BK187 := mk_ (blk_grown (bT_ BK187) hg (Kd.R_ne HO_200003.out BK187.out (by decide))); replace BK199 := mk_ (blk_grown (bT_ BK199) hg (Kd.R_ne HO_200003.out BK199.out (by decide))); replace HO_200003 := mk_ (hp_); replace HB := mk_ ((by rw [hw]; exact below_set (HB.out) GB57.out : Below w.heap.size w w64)); clear hg hw hp_; obtain ⟨hcz65_0, hcz65_1, hcz65_2, hcz65_3, hfz65_0, hfz65_1, hfz65_2, hfz65_3⟩ := cf4_ BK199; obtain ⟨hcz66_0, hcz66_1, hcz66_2, hcz66_3, hfz66_0, hfz66_1, hfz66_2, hfz66_3⟩ := cf4_ BK187)))
       refine bodyPost_ret (results_ct rfl _ _ gb187 31 #[.slice Ao16 t189.length co16, .slice Ao20 t192.length co20, .int .i64 t195, .slice (some ⟨go57, 0, none⟩) t196.length co21] (0, 0) _ rfl (bP_ BK187) Try.underlying31 rfl (by kernel_rfl)) rfl ?_
       exact ⟨_, _, _, by first | rfl | (simp [errW_none, errW_some] <;> rfl) | (simp only [← hji52]; first | rfl | (simp [errW_none, errW_some] <;> rfl)) | (simp [*, errW_none, errW_some] <;> rfl), by (with_reducible repeat (first | apply Kd.S_alloc | apply Kd.S_drewN | apply Kd.S_drew)); exact Kd.S_mono (Kd.S_far (p := ⟨gb187, 3, none⟩) (Kd.S_far (p := ⟨gb187, 2, none⟩) (Kd.S_far (p := ⟨gb187, 1, none⟩) (Kd.S_far (p := ⟨gb187, 0, none⟩) (Kd.S_types HO_200000.out BK187.out (by decide)) (fun _ hk => hk.2) (.slice Ao16 t189.length co16)) (fun _ hk => hk.2) (.slice Ao20 t192.length co20)) (fun _ hk => hk.2) (.int .i64 t195)) (fun _ hk => hk.2) (.slice (some ⟨go57, 0, none⟩) t196.length co21)) (fun _ hk => hk.1), by (with_reducible repeat (first | apply Kd.R_alloc | apply Kd.R_drewN | apply Kd.R_drew)); exact Kd.R_mono (Kd.R_far (p := ⟨gb187, 3, none⟩) (Kd.R_far (p := ⟨gb187, 2, none⟩) (Kd.R_far (p := ⟨gb187, 1, none⟩) (Kd.R_far (p := ⟨gb187, 0, none⟩) (Kd.R_types HO_200001.out BK187.out (by decide)) (fun _ hk => hk.2) (.slice Ao16 t189.length co16)) (fun _ hk => hk.2) (.slice Ao20 t192.length co20)) (fun _ hk => hk.2) (.int .i64 t195)) (fun _ hk => hk.2) (.slice (some ⟨go57, 0, none⟩) t196.length co21)) (fun _ hk => trivial), by (with_reducible repeat (first | apply Kd.R_alloc | apply Kd.R_drewN | apply Kd.R_drew)); exact Kd.R_mono (Kd.R_far (p := ⟨gb187, 3, none⟩) (Kd.R_far (p := ⟨gb187, 2, none⟩) (Kd.R_far (p := ⟨gb187, 1, none⟩) (Kd.R_far (p := ⟨gb187, 0, none⟩) (Kd.R_types HO_200003.out BK187.out (by decide)) (fun _ hk => hk.2) (.slice Ao16 t189.length co16)) (fun _ hk => hk.2) (.slice Ao20 t192.length co20)) (fun _ hk => hk.2) (.int .i64 t195)) (fun _ hk => hk.2) (.slice (some ⟨go57, 0, none⟩) t196.length co21)) (fun _ hk => trivial), sABelo_9⟩
      ·rw [if_neg c56] at H
       have c56b0 := beq_eq_false_iff_ne.mpr c56
       have c56b1 := bne_iff_ne.mpr c56
       obtain ⟨y206, hy206⟩ : ∃ y_ : List (S43), y_ = (t196.set ((ji52) : Int).toNat (⟨0, (rd_T43 t196 (ji52)).f1⟩ : S43)) := ⟨_, rfl⟩
       replace H : (some (t189, t192, t195, y206, true)) = some (r1, r2, r3, r4, r5) := by first | (rw [hy206]; with_reducible exact H) | (have H2_ := (Option.bind_some _ _).symm.trans H; rw [hy206]; with_reducible exact H2_) | (have H2_ := (Option.bind_some _ _).symm.trans H; with_reducible exact H2_) | with_reducible exact H | (rw [hy206]; exact H) | exact H
       have Ny206 := mk_ hy206; clear hy206
       simp only [Option.some.injEq, Prod.mk.injEq] at H
       obtain ⟨rfl, rfl, rfl, rfl, rfl⟩ := H
       have hnb68 := NB199_186.out; have hnc68 := NB186_199.out; have hnb69 := NB199_187.out; have hnc69 := NB187_199.out
       obtain ⟨hcz70_0, hcz70_1, hcz70_2, hcz70_3, hfz70_0, hfz70_1, hfz70_2, hfz70_3⟩ := cf4_ BK199
       have p203 : 0 ≤ ((ji52) : Int) := dA_
       have q203 : (ji52) < (t196.length : Int) := dA_
       obtain ⟨ad203, e203, hx203_0, hx203_1⟩ := at_T43 (Kd.R_reads' HO_200003.out).2.2 (ji52) p203 q203
       cases e203
       replace p203 := eq_true p203; replace q203 := eq_true q203; have hnb71 := NB186_187.out; have hnc71 := NB187_186.out
       obtain ⟨hcz72_0, hcz72_1, hcz72_2, hcz72_3, hfz72_0, hfz72_1, hfz72_2, hfz72_3⟩ := cf4_ BK186
       have p204 : 0 ≤ ((ji52) : Int) := dA_
       have q204 : (ji52) < (l0_0.length : Int) := dA_
       obtain ⟨ad204, A204_0, c204_0, e204, hx204_0, hx204_1, hx204_2, hx204_3, hl204_0, hi204_0⟩ := at_T39 HR0_0.out (ji52) p204 q204
       cases e204
       replace hx204_0 := hX_ HB hx204_0
       replace hx204_1 := hX_ HB hx204_1
       replace hx204_2 := hX_ HB hx204_2
       replace hx204_3 := hX_ HB hx204_3
       have HR204_0 := mk_ hi204_0; have HC204_0 := mk_ hl204_0; clear hi204_0 hl204_0; replace p204 := eq_true p204; replace q204 := eq_true q204
       have p67 : 0 ≤ ((ji52) : Int) := dA_
       have q67 : ((ji52) : Int) < ((t196.length : Int) : Int) := dA_
       obtain ⟨go67, co67, eo67, gb67, gl67, cl67, HG67⟩ := Kd.R_form HO_200003.out (by omega)
       (first | cases eo67 | (injection eo67 with ea_ en_ ec_; (first | subst ea_ | (injection ea_ with ea_; subst ea_)); subst ec_; clear en_))
       have GB67 := mk_ gb67; have GG67 := mk_ HG67; clear gb67 gl67 HG67
       (first | simp only [add_plain] at hx203_0 | skip)
       (first | simp only [add_plain] at hx203_1 | skip)
       obtain ⟨ce67, hcl67, hM67, hcc67, hfr67⟩ := Kd.R_elem HO_200003.out z43 ((ji52) : Int) p67 q67
       obtain rfl := k43_openM hM67
       have hx67_0 : wc.cell? ⟨go67, ((ji52) : Int).toNat * 2, none⟩ = some (.int .i64 ((rd_T43 t196 (ji52)).f0)) := hcc67 0 _ rfl
       have hx67_1 : wc.cell? ⟨go67, ((ji52) : Int).toNat * 2 + 1, none⟩ = some (.int .i64 ((rd_T43 t196 (ji52)).f1)) := hcc67 1 _ rfl
       have hf67_0 : wc.frozen? ⟨go67, ((ji52) : Int).toNat * 2, none⟩ = false := hfr67 0
       have hf67_1 : wc.frozen? ⟨go67, ((ji52) : Int).toNat * 2 + 1, none⟩ = false := hfr67 1
       clear hcl67 hcc67 hfr67 hM67; replace p67 := eq_true p67; replace q67 := eq_true q67
       have HX73 := mk_ (show Kd.R k43 43 wc w.heap.size (fun _ => True) (.slice (some ⟨go67, 0, none⟩) t196.length co21) t196 from (rT_ HO_200003))
       obtain ⟨ce73, hcl73, hM73, hcc73, hfr73⟩ := Kd.R_elem HX73.out z43 ((ji52) : Int) dA_ (by have h_ : ((ji52) : Int) < ((t196.length : Int) : Int) := dA_; first | exact h_ | (have e_ := (Kd.R_reads' HO_200003.out).1; omega) | simpa using h_)
       obtain rfl := k43_openM hM73
       have HP73 := Kd.R_seg HX73.out ((ji52) : Int) dA_ (by have h_ : ((ji52) : Int) < ((t196.length : Int) : Int) := dA_; first | exact h_ | (have e_ := (Kd.R_reads' HO_200003.out).1; omega) | simpa using h_) (seg := [.int .i64 0]) (j := 0) hcl73 hcc73 (show 1 ≤ 2 from by decide) (x' := (⟨0, (rd_T43 t196 (ji52)).f1⟩ : S43)) (k43_mkM _ _ _ (⟨0, (rd_T43 t196 (ji52)).f1⟩ : S43) ) (fun _ hk => hk)
       have hx73_0 := hcc73 0 _ rfl
       (try simp only [show (k43).sz = 2 from rfl, Nat.mul_one, Nat.add_zero] at hx73_0)
       have hf73_0 := hfr73 0
       (try simp only [show (k43).sz = 2 from rfl, Nat.mul_one, Nat.add_zero] at hf73_0)
       clear hcl73 hcc73 hfr73 hM73
       have START_ := True.intro
       repeat ((first | go_quiet (fail) | clear START_); try go_wp2_with (first | ((with_reducible refine gate_store (t := 2) (p := 40) rfl ?_); (try (rw [drewN_self wc]; generalize hq_ : World.drewN wc _ = wc; have n0_ := mk_ (Kd.S_at hq_ HO_200000.out); have n1_ := mk_ (Kd.R_at hq_ HO_200001.out); have n2_ := mk_ (Kd.R_at hq_ HO_200003.out); have n3_ := mk_ (blk_at hq_ BK186.out); have n4_ := mk_ (blk_at hq_ BK187.out); have n5_ := mk_ (blk_at hq_ BK199.out); have n6_ := mk_ (below_at hq_ HB.out); clear hq_ HO_200000 HO_200001 HO_200003 BK186 BK187 BK199 HB; have HO_200000 := n0_; have HO_200001 := n1_; have HO_200003 := n2_; have BK186 := n3_; have BK187 := n4_; have BK199 := n5_; have HB := n6_; clear n0_ n1_ n2_ n3_ n4_ n5_ n6_; (try (have HX73 := mk_ (show Kd.R k43 43 wc w.heap.size (fun _ => True) (.slice (some ⟨go67, 0, none⟩) t196.length co21) t196 from (rT_ HO_200003)))); (try (obtain ⟨ce73, hcl73, hM73, hcc73, hfr73⟩ := Kd.R_elem HX73.out z43 ((ji52) : Int) dA_ (by have h_ : ((ji52) : Int) < ((t196.length : Int) : Int) := dA_; first | exact h_ | (have e_ := (Kd.R_reads' HO_200003.out).1; omega) | simpa using h_))); (try (obtain rfl := k43_openM hM73)); (try (have HP73 := Kd.R_seg HX73.out ((ji52) : Int) dA_ (by have h_ : ((ji52) : Int) < ((t196.length : Int) : Int) := dA_; first | exact h_ | (have e_ := (Kd.R_reads' HO_200003.out).1; omega) | simpa using h_) (seg := [.int .i64 0]) (j := 0) hcl73 hcc73 (show 1 ≤ 2 from by decide) (x' := (⟨0, (rd_T43 t196 (ji52)).f1⟩ : S43)) (k43_mkM _ _ _ (⟨0, (rd_T43 t196 (ji52)).f1⟩ : S43) ) (fun _ hk => hk))); (try (have hx73_0 := hcc73 0 _ rfl)); (try (try simp only [show (k43).sz = 2 from rfl, Nat.mul_one, Nat.add_zero] at hx73_0)); (try (have hf73_0 := hfr73 0)); (try (try simp only [show (k43).sz = 2 from rfl, Nat.mul_one, Nat.add_zero] at hf73_0)); (try (clear hcl73 hcc73 hfr73 hM73)))); refine store_event (t := 2) (p := 40) (v := ?vo_w74) (w1 := (wc.setCell ⟨go67, ((ji52) : Int).toNat * 2, none⟩ (.int .i64 0))) ?hg ?ho ?hn ?hr ?_; (case ho => rfl); (case hg => rfl); (case hn => rfl); (case hr => first | (go_simp; done) | (go_simp; rfl)); intro w74 hw; have hg : wc.grownBy w74 (some go67) := (by rw [hw]; exact HP73.2); have hp_ : Kd.R k43 43 w74 w.heap.size (fun _ => True) (.slice (some ⟨go67, 0, none⟩) t196.length co21) y206 := (by rw [hw, Ny206.out]; exact HP73.1); clear HP73; replace HO_200000 := mk_ (Kd.S_over' (v := (.slice (some ⟨go67, 0, none⟩) t196.length co21)) (sT_ HO_200000) (Kd.R_typed HO_200003.out) (by decide) hg); replace HO_200001 := mk_ (Kd.R_over' (v := (.slice (some ⟨go67, 0, none⟩) t196.length co21)) (rT_ HO_200001) (Kd.R_typed HO_200003.out) (by decide) hg); replace BK186 := mk_ (blk_grown (bT_ BK186) hg (Kd.R_ne HO_200003.out BK186.out (by decide))); replace BK187 := mk_ (blk_grown (bT_ BK187) hg (Kd.R_ne HO_200003.out BK187.out (by decide))); replace BK199 := mk_ (blk_grown (bT_ BK199) hg (Kd.R_ne HO_200003.out BK199.out (by decide))); replace HO_200003 := mk_ (hp_); replace HB := mk_ ((by rw [hw]; exact below_set (HB.out) GB67.out : Below w.heap.size w w74)); clear hg hw hp_; obtain ⟨hcz75_0, hcz75_1, hcz75_2, hcz75_3, hfz75_0, hfz75_1, hfz75_2, hfz75_3⟩ := cf4_ BK199; obtain ⟨hcz76_0, hcz76_1, hcz76_2, hcz76_3, hfz76_0, hfz76_1, hfz76_2, hfz76_3⟩ := cf4_ BK187)))
       refine bodyPost_ret (results_ct rfl _ _ gb187 31 #[.slice Ao16 t189.length co16, .slice Ao20 t192.length co20, .int .i64 t195, .slice (some ⟨go67, 0, none⟩) t196.length co21] (0, 0) _ rfl (bP_ BK187) Try.underlying31 rfl (by kernel_rfl)) rfl ?_
       exact ⟨_, _, _, by first | rfl | (simp [errW_none, errW_some] <;> rfl) | (simp only [← hji52]; first | rfl | (simp [errW_none, errW_some] <;> rfl)) | (simp [*, errW_none, errW_some] <;> rfl), by (with_reducible repeat (first | apply Kd.S_alloc | apply Kd.S_drewN | apply Kd.S_drew)); exact Kd.S_mono (Kd.S_far (p := ⟨gb187, 3, none⟩) (Kd.S_far (p := ⟨gb187, 2, none⟩) (Kd.S_far (p := ⟨gb187, 1, none⟩) (Kd.S_far (p := ⟨gb187, 0, none⟩) (Kd.S_types HO_200000.out BK187.out (by decide)) (fun _ hk => hk.2) (.slice Ao16 t189.length co16)) (fun _ hk => hk.2) (.slice Ao20 t192.length co20)) (fun _ hk => hk.2) (.int .i64 t195)) (fun _ hk => hk.2) (.slice (some ⟨go67, 0, none⟩) t196.length co21)) (fun _ hk => hk.1), by (with_reducible repeat (first | apply Kd.R_alloc | apply Kd.R_drewN | apply Kd.R_drew)); exact Kd.R_mono (Kd.R_far (p := ⟨gb187, 3, none⟩) (Kd.R_far (p := ⟨gb187, 2, none⟩) (Kd.R_far (p := ⟨gb187, 1, none⟩) (Kd.R_far (p := ⟨gb187, 0, none⟩) (Kd.R_types HO_200001.out BK187.out (by decide)) (fun _ hk => hk.2) (.slice Ao16 t189.length co16)) (fun _ hk => hk.2) (.slice Ao20 t192.length co20)) (fun _ hk => hk.2) (.int .i64 t195)) (fun _ hk => hk.2) (.slice (some ⟨go67, 0, none⟩) t196.length co21)) (fun _ hk => trivial), by (with_reducible repeat (first | apply Kd.R_alloc | apply Kd.R_drewN | apply Kd.R_drew)); exact Kd.R_mono (Kd.R_far (p := ⟨gb187, 3, none⟩) (Kd.R_far (p := ⟨gb187, 2, none⟩) (Kd.R_far (p := ⟨gb187, 1, none⟩) (Kd.R_far (p := ⟨gb187, 0, none⟩) (Kd.R_types HO_200003.out BK187.out (by decide)) (fun _ hk => hk.2) (.slice Ao16 t189.length co16)) (fun _ hk => hk.2) (.slice Ao20 t192.length co20)) (fun _ hk => hk.2) (.int .i64 t195)) (fun _ hk => hk.2) (.slice (some ⟨go67, 0, none⟩) t196.length co21)) (fun _ hk => trivial), sABelo_9⟩
 ·replace c5 := Bool.eq_false_iff.mpr c5
  subst c5
  replace H := ifF_ H
  simp only [Option.some.injEq, Prod.mk.injEq] at H
  obtain ⟨rfl, rfl, rfl, rfl, rfl⟩ := H
  go_enter Try.func18, Try.ntmps18
  have START_ := True.intro
  repeat ((first | go_quiet (fail) | clear START_); try go_wp2_with (first | ((with_reducible refine gate_dst (N := 3) rfl ?_); refine box_event ?hg (N := 3) ?hd (cs := #[.slice A0_0 l0_0.length c0_0, .slice A0_1 l0_1.length c0_1, .int .i64 a0_2, .slice A0_3 l0_3.length c0_3]) (t := 31) ?hr ?_; (case hd => rfl); (case hg => rfl); (case hr => first | (go_simp; done) | (go_simp; rfl)); intro gb186 hg w77 hbox hb; have BK186 := mk_ (hbox); have GW186 := gE_ HB hg; have GE186 := gE_ HB hg; replace HB := bS_ HB hb; clear hb hbox hg) | ((with_reducible refine gate_dst (N := 6) rfl ?_); refine box_event ?hg (N := 6) ?hd (cs := #[.slice none 0 0, .slice none 0 0, .int .i64 0, .slice none 0 0]) (t := 31) ?hr ?_; (case hd => rfl); (case hg => rfl); (case hr => first | (go_simp; done) | (go_simp; rfl)); intro gb187 hg w78 hbox hb; have BK187 := mk_ (hbox); have GW187 := gE_ HB hg; have GE187 := gE_ HB hg; replace HB := bS_ HB hb; have NB186_187 := nL_ BK186 hg; have NB187_186 := nG_ BK186 hg; replace BK186 := bB_ BK186 hb; clear hb hbox hg; have hnb79 := NB186_187.out; have hnc79 := NB187_186.out; obtain ⟨hcz80_0, hcz80_1, hcz80_2, hcz80_3, hfz80_0, hfz80_1, hfz80_2, hfz80_3⟩ := cf4_ BK186) | (go_at_call 48; (with_reducible refine (impl_runOk.calls k _ _ l0_0 _ _ l0_1 a0_2 _ _ l0_3 false _ ?side1 ?side2 ?side3 ?side4 ?side5 ?side6 A4.out).mono ?_); (case side1 => exact cB_ HR0_0 HB); (case side2 => exact HC0_0.out); (case side3 => exact cB_ HR0_1 HB); (case side4 => exact HC0_1.out); (case side5 => exact cB_ HR0_3 HB); (case side6 => exact HC0_3.out); rintro e w81 ⟨rfl, hb⟩; replace BK186 := bB_ BK186 hb; replace BK187 := bB_ BK187 hb; replace HB := bS_ HB hb; (try clear hb); obtain ⟨hcz82_0, hcz82_1, hcz82_2, hcz82_3, hfz82_0, hfz82_1, hfz82_2, hfz82_3⟩ := cf4_ BK187)))
  refine bodyPost_ret (results_ct rfl _ _ gb187 31 #[.slice none 0 0, .slice none 0 0, .int .i64 0, .slice none 0 0] (0, 0) _ rfl (bP_ BK187) Try.underlying31 rfl (by kernel_rfl)) rfl ?_
  exact ⟨_, _, _, eW_, by first | exact Kd.S_nil _ _ _ _ _ | exact Kd.N_nil _ _ _ _ _ | exact Kd.V_nil _ _ _ _ _ | exact Kd.Q_nil _ _ _ _ _ | exact Kd.R_nil _ _ _ _ _, by first | exact Kd.R_nil _ _ _ _ _ | exact Kd.N_nil _ _ _ _ _ | exact Kd.V_nil _ _ _ _ _ | exact Kd.Q_nil _ _ _ _ _ | exact Kd.S_nil _ _ _ _ _, by first | exact Kd.R_nil _ _ _ _ _ | exact Kd.N_nil _ _ _ _ _ | exact Kd.V_nil _ _ _ _ _ | exact Kd.Q_nil _ _ _ _ _ | exact Kd.S_nil _ _ _ _ _, sABelo_9⟩

/-- A state of type 99 at block g of W; what its slices lead to came in by w0. -/
def IsS99 (w0 W : World) (g : Nat) (f0 : List Int) (f1 : Int) : Prop := ∃ A0 c0, W.heap[g]? = some (.cells #[.slice A0 f0.length c0, .int .i64 f1] 99 (0, 0)) ∧ w0.heap.size ≤ g ∧ Kd.C (Kd.int .u8) w0 A0 f0.length f0
theorem IsS99.grown {w0 W : World} {g : Nat} {f0 : List Int} {f1 : Int} {W1 : World} {row : Option Nat} (h : IsS99 w0 W g f0 f1) (hw : W.grownBy W1 row) (hne : some g ≠ row) : IsS99 w0 W1 g f0 f1 := by
 obtain ⟨A0, c0, hb, hg, hr0⟩ := h
 exact ⟨A0, c0, blk_grown hb hw hne, hg, hr0⟩
theorem IsS99.own_neN {w0 W : World} {g : Nat} {f0 : List Int} {f1 : Int} {α : Type} {d : Kd α} {e : Nat} {base : Nat} {ok : Nat → Prop} {v : Value} {xs : List α} (h : IsS99 w0 W g f0 f1) (ho : Kd.N d e W base ok v xs) (ht : e ≠ 99) : some g ≠ v.ownBlock := by
 obtain ⟨A0, c0, hb, hg, hr0⟩ := h
 exact Kd.N_ne ho hb ht
theorem IsS99.fresh {w0 W : World} {g : Nat} {f0 : List Int} {f1 : Int} (h : IsS99 w0 W g f0 f1) : ∀ k, W.heap.size ≤ k → k ≠ g := by
 obtain ⟨A0, c0, hb, hg, hr0⟩ := h
 exact Kd.freshB hb
theorem IsS99.kept {w0 W : World} {g : Nat} {f0 : List Int} {f1 : Int} {W1 : World} {S : Nat → Prop} (h : IsS99 w0 W g f0 f1) (hk : Kept W W1 S) (hne : ¬ S g) : IsS99 w0 W1 g f0 f1 := by
 obtain ⟨A0, c0, hb, hg, hr0⟩ := h
 exact ⟨A0, c0, blk_kept hb hk hne, hg, hr0⟩
theorem IsS99.below {w0 W : World} {g : Nat} {f0 : List Int} {f1 : Int} {W1 : World} (h : IsS99 w0 W g f0 f1) (hw : Below W.heap.size W W1) : IsS99 w0 W1 g f0 f1 := h.grown (grown_of_below hw none) (by simp)
theorem IsS99.alloc {w0 W : World} {g : Nat} {f0 : List Int} {f1 : Int} (h : IsS99 w0 W g f0 f1) (o : Obj) : IsS99 w0 (W.alloc o) g f0 f1 := h.below (below_alloc (Below.refl _ _) o)
theorem IsS99.drewN {w0 W : World} {g : Nat} {f0 : List Int} {f1 : Int} (h : IsS99 w0 W g f0 f1) (m : Nat) : IsS99 w0 (W.drewN m) g f0 f1 := h
theorem IsS99.drew {w0 W : World} {g : Nat} {f0 : List Int} {f1 : Int} (h : IsS99 w0 W g f0 f1) : IsS99 w0 W.drew g f0 f1 := h
theorem IsS99.at_ {w0 W : World} {g : Nat} {f0 : List Int} {f1 : Int} {w' : World} {m : Nat} (hq : W.drewN m = w') (h : IsS99 w0 W g f0 f1) : IsS99 w0 w' g f0 f1 := by subst hq; exact IsS99.drewN h m
theorem IsS99.apart {w0 W : World} {g : Nat} {f0 : List Int} {f1 : Int} {α : Type} {d : Kd α} {e : Nat} {base : Nat} {ok : Nat → Prop} {v : Value} {xs : List α} (h : IsS99 w0 W g f0 f1) (ho : d.R e W base ok v xs) (ht : ∀ q, q ∈ e :: d.E → q ≠ 99) : d.R e W base (fun k => ok k ∧ k ≠ g) v xs := by
 obtain ⟨A0, c0, hb, hg, hr0⟩ := h
 exact Kd.R_types ho hb ht
theorem IsS99.own_ne {w0 W : World} {g : Nat} {f0 : List Int} {f1 : Int} {α : Type} {d : Kd α} {e : Nat} {base : Nat} {ok : Nat → Prop} {v : Value} {xs : List α} (h : IsS99 w0 W g f0 f1) (ho : d.R e W base ok v xs) (ht : e ≠ 99) : some g ≠ v.ownBlock := by
 obtain ⟨A0, c0, hb, hg, hr0⟩ := h
 exact Kd.R_ne ho hb ht
theorem IsS99.apartQ {w0 W : World} {g : Nat} {f0 : List Int} {f1 : Int} {α : Type} {d : Kd α} {e : Nat} {base : Nat} {ok : Nat → Prop} {v : Value} {xs : List α} (h : IsS99 w0 W g f0 f1) (ho : d.Q e W base ok v xs) (ht : ∀ q, q ∈ e :: d.E → q ≠ 99) : d.Q e W base (fun k => ok k ∧ k ≠ g) v xs := by
 obtain ⟨A0, c0, hb, hg, hr0⟩ := h
 exact Kd.Q_types ho hb ht
theorem IsS99.own_neQ {w0 W : World} {g : Nat} {f0 : List Int} {f1 : Int} {α : Type} {d : Kd α} {e : Nat} {base : Nat} {ok : Nat → Prop} {v : Value} {xs : List α} (h : IsS99 w0 W g f0 f1) (ho : d.Q e W base ok v xs) (ht : e ≠ 99) : some g ≠ v.ownBlock := by
 obtain ⟨A0, c0, hb, hg, hr0⟩ := h
 exact Kd.Q_ne ho hb ht
theorem IsS99.apartS {w0 W : World} {g : Nat} {f0 : List Int} {f1 : Int} {α : Type} {d : Kd α} {e : Nat} {base : Nat} {ok : Nat → Prop} {v : Value} {xs : List α} (h : IsS99 w0 W g f0 f1) (ho : d.S e W base ok v xs) (ht : ∀ q, q ∈ e :: d.E → q ≠ 99) : d.S e W base (fun k => ok k ∧ k ≠ g) v xs := by
 obtain ⟨A0, c0, hb, hg, hr0⟩ := h
 exact Kd.S_types ho hb ht
theorem IsS99.own_neS {w0 W : World} {g : Nat} {f0 : List Int} {f1 : Int} {α : Type} {d : Kd α} {e : Nat} {base : Nat} {ok : Nat → Prop} {v : Value} {xs : List α} (h : IsS99 w0 W g f0 f1) (ho : d.S e W base ok v xs) (ht : e ≠ 99) : some g ≠ v.ownBlock := by
 obtain ⟨A0, c0, hb, hg, hr0⟩ := h
 exact Kd.S_ne ho hb ht
theorem IsS99.lt {w0 W : World} {g : Nat} {f0 : List Int} {f1 : Int} (h : IsS99 w0 W g f0 f1) : g < W.heap.size := by
 obtain ⟨A0, c0, hb, hg, hr0⟩ := h
 exact blk_lt hb
theorem IsS99.ge {w0 W : World} {g : Nat} {f0 : List Int} {f1 : Int} (h : IsS99 w0 W g f0 f1) : w0.heap.size ≤ g := by
 obtain ⟨A0, c0, hb, hg, hr0⟩ := h
 exact hg
theorem IsS99.ne_blk {w0 W : World} {g : Nat} {f0 : List Int} {f1 : Int} {a : Nat} {cs : Array Value} {t : TypeId} {fr : Nat × Nat} (h : IsS99 w0 W g f0 f1) (hb2 : W.heap[a]? = some (.cells cs t fr)) (ht : t ≠ 99) : g ≠ a := by
 obtain ⟨A0, c0, hb, hg, hr0⟩ := h
 rintro rfl
 rw [hb] at hb2
 injection hb2 with hb2
 injection hb2 with _ ht2
 exact ht ht2.symm
theorem IsS99.far {w0 W : World} {g : Nat} {f0 : List Int} {f1 : Int} {p : Addr} (h : IsS99 w0 W g f0 f1) (hne : g ≠ p.block) (u : Value) : IsS99 w0 (W.setCell p u) g f0 f1 := by
 obtain ⟨A0, c0, hb, hg, hr0⟩ := h
 exact ⟨A0, c0, blk_far hb hne u, hg, hr0⟩
theorem cellS99_0 {W : World} {g : Nat} {A0 : Option Addr} {c0 : Nat} {f0 : List Int} {f1 : Int} (h : W.heap[g]? = some (.cells #[.slice A0 f0.length c0, .int .i64 f1] 99 (0, 0))) : W.cell? ⟨g, 0, none⟩ = some (.slice A0 f0.length c0) := (blk_cell h 0).trans rfl
theorem cellS99_1 {W : World} {g : Nat} {A0 : Option Addr} {c0 : Nat} {f0 : List Int} {f1 : Int} (h : W.heap[g]? = some (.cells #[.slice A0 f0.length c0, .int .i64 f1] 99 (0, 0))) : W.cell? ⟨g, 1, none⟩ = some (.int .i64 f1) := (blk_cell h 1).trans rfl
theorem IsS99.set_1 {w0 W : World} {g : Nat} {f0 : List Int} {f1 : Int} (h : IsS99 w0 W g f0 f1) (x : Int) : IsS99 w0 (W.setCell ⟨g, 1, none⟩ (.int .i64 x)) g f0 x := by
 obtain ⟨A0, c0, hb, hg, hr0⟩ := h
 exact ⟨A0, c0, by simpa using blk_set hb 1 (.int .i64 x), hg, hr0⟩
theorem IsS99.new (w0 W : World) (A0 : Option Addr) (c0 : Nat) (f0 : List Int) (f1 : Int) (hB : Below w0.heap.size w0 W) (hr0 : Kd.C (Kd.int .u8) w0 A0 f0.length f0) : IsS99 w0 (W.alloc (.cells #[.slice A0 f0.length c0, .int .i64 f1] 99)) W.heap.size f0 f1 := ⟨A0, c0, by simpa using heap_alloc_new W _, hB.size, hr0⟩

/-! ### spec_l1Open: function 43 -/
def spec_l1Open.f (l0 : List Int) : Option (List Int × Int) := some (l0, 0)
set_option maxHeartbeats 8000000 in
set_option maxRecDepth 100000 in
theorem spec_l1Open.calls (A0 : Option Addr) (c0 : Nat) (l0 : List Int) (r1 : List Int) (r2 : Int) (w0 w : World) (hB : Below w0.heap.size w0 w) (hr0 : Kd.C (Kd.int .u8) w0 A0 l0.length l0) (hc0 : l0.length ≤ c0) (h : spec_l1Open.f l0 = some (r1, r2)) :
  Calls Try.prog 43 #[.slice A0 l0.length c0] w fun e w' => ∃ g_ : Nat, e = .returned (.pointer (some ⟨g_, 0, none⟩)) ∧ IsS99 w0 w' g_ r1 r2 ∧ Below w0.heap.size w0 w' ∧ Below w.heap.size w w' := by
 have hu99 := Try.underlying99; have HR0 := mk_ hr0; have HC0 := mk_ hc0; clear hr0 hc0
 have HBW := mk_ (Below.refl w.heap.size w)
 have HW0 := mk_ hB.size; have HB := mk_ hB; clear hB
 have H : (some (l0, 0)) = some (r1, r2) := h
 clear h
 simp only [Option.some.injEq, Prod.mk.injEq] at H
 obtain ⟨rfl, rfl⟩ := H
 go_enter Try.func43, Try.ntmps43
 go_wp2_with (first | ((with_reducible refine gate_dst (N := 5) rfl ?_); refine box_event ?hg (N := 5) ?hd (cs := #[.slice A0 l0.length c0, .int .i64 0]) (t := 99) ?hr ?_; (case hd => rfl); (case hg => rfl); (case hr => first | (go_simp; done) | (go_simp; rfl)); intro gb207 hg w2 hbox hb; replace HB := bS_ HB hb; have BK207 := mk_ (hbox); have GW207 := mk_ ((by rw [hg]; exact (below_size sABelo_9) : w.heap.size ≤ gb207)); have GE207 := mk_ ((Nat.le_trans HW0.out (by rw [hg]; exact (below_size sABelo_9) : w.heap.size ≤ gb207) : w0.heap.size ≤ gb207)); replace HBW := mk_ (below_step HBW.out hb); clear hb hbox hg))
 go_ret
 exact ⟨_, rfl, (show IsS99 w0 _ gb207 l0 0 from ⟨_, _, by exact bT_ BK207, GE207.out, HR0.out⟩), sABelo_9, sABelo_9⟩

/-! ### spec_l1Rd_next: function 83 -/
def spec_l1Rd_next.f (s0_0 : List Int) (s0_1 : Int) : Option (Int × Int) := if s0_1 ≥ (s0_0.length : Int) then (some (0, s0_1)) else (if 0 ≤ (wrap64 ((wrap64 (s0_1 + 1)) - 1)) then (if (wrap64 ((wrap64 (s0_1 + 1)) - 1)) < (s0_0.length : Int) then (some (wrap64 (rd s0_0 (wrap64 ((wrap64 (s0_1 + 1)) - 1))), wrap64 (s0_1 + 1))) else (none)) else (none))
set_option maxHeartbeats 8000000 in
set_option maxRecDepth 100000 in
theorem spec_l1Rd_next.calls (g : Nat) (s0_0 : List Int) (s0_1 : Int) (r1 : Int) (r2 : Int) (w0 w : World) (hI : IsS99 w0 w g s0_0 s0_1) (hB : Below w0.heap.size w0 w) (h : spec_l1Rd_next.f s0_0 s0_1 = some (r1, r2)) :
  Calls Try.prog 83 #[.pointer (some ⟨g, 0, none⟩)] w fun e w' => e = .returned (.int .i64 r1) ∧ IsS99 w0 w' g s0_0 r2 ∧ Below w0.heap.size w0 w' ∧ KeepBut w w' g none := by
 have HI0 := mk_ hI
 have HK := mk_ (KeepBut.refl w g none)
 have HL := mk_ hB.size; clear hI; have HW0 := mk_ hB.size; have HB := mk_ hB; clear hB
 have H : (if s0_1 ≥ (s0_0.length : Int) then (some (0, s0_1)) else (if 0 ≤ (wrap64 ((wrap64 (s0_1 + 1)) - 1)) then (if (wrap64 ((wrap64 (s0_1 + 1)) - 1)) < (s0_0.length : Int) then (some (wrap64 (rd s0_0 (wrap64 ((wrap64 (s0_1 + 1)) - 1))), wrap64 (s0_1 + 1))) else (none)) else (none))) = some (r1, r2) := h
 clear h
 by_cases c2 : s0_1 ≥ (s0_0.length : Int)
 ·rw [if_pos c2] at H
  have c2b0 : decide ((s0_0.length : Int) ≤ s0_1) = true := decide_eq_true c2
  clear c2
  simp only [Option.some.injEq, Prod.mk.injEq] at H
  obtain ⟨rfl, rfl⟩ := H
  obtain ⟨ASz3_0, cSz3_0, HGz3, hgz3, HSz3_0⟩ := HI0.out
  have hcz3_0 := cellS99_0 HGz3; have hcz3_1 := cellS99_1 HGz3; have hfz3_1 := blk_frozen HGz3 1; clear HGz3 hgz3
  go_enter Try.func83, Try.ntmps83
  go_wp2
  repeat (go_quiet (fail); try go_wp2)
  go_ret
  exact ⟨eW_, by repeat (first | (with_reducible first | exact HI0.out | apply IsS99.alloc | apply IsS99.drewN | apply IsS99.drew | apply IsS99.set_1) | exact HI0.out), by repeat (first | (with_reducible first | exact HB.out | apply below_alloc | apply pw_below_drewN | apply below_drew1 | refine below_set ?_ (IsS99.ge HI0.out)) | exact HB.out), sAKeep_9⟩
 ·rw [if_neg c2] at H
  have c2b0 : decide ((s0_0.length : Int) ≤ s0_1) = false := decide_eq_false c2
  clear c2
  obtain ⟨ji4, hji4⟩ : ∃ j_ : Int, (wrap64 ((wrap64 (s0_1 + 1)) - 1)) = j_ := ⟨_, rfl⟩
  replace H : (if 0 ≤ (ji4) then (if (ji4) < (s0_0.length : Int) then (some (wrap64 (rd s0_0 (ji4)), wrap64 (s0_1 + 1))) else (none)) else (none)) = some (r1, r2) := by first | (rw [hji4] at H; exact H) | (simp only [hji4] at H ⊢; exact H)
  have hji4w : (IntKind.i64.wrap ((wrap64 (s0_1 + 1)) - 1)) = ji4 := (i64_w _).trans hji4
  obtain ⟨c5, H⟩ := ifS_ H
  have c5b0 : decide (0 ≤ (ji4)) = true := decide_eq_true c5
  clear c5
  obtain ⟨c6, H⟩ := ifS_ H
  have c6b0 : decide ((ji4) < (s0_0.length : Int)) = true := decide_eq_true c6
  clear c6
  simp only [Option.some.injEq, Prod.mk.injEq] at H
  obtain ⟨rfl, rfl⟩ := H
  obtain ⟨ASz7_0, cSz7_0, HGz7, hgz7, HSz7_0⟩ := HI0.out
  have hcz7_0 := cellS99_0 HGz7; have hcz7_1 := cellS99_1 HGz7; have hfz7_1 := blk_frozen HGz7 1; clear HGz7 hgz7
  have p208 : 0 ≤ ((ji4) : Int) := dA_
  have q208 : (ji4) < (s0_0.length : Int) := dA_
  obtain ⟨ad208, e208, hx208_0⟩ := Kd.at_int HSz7_0 (ji4) p208 q208
  cases e208
  have hn208_0 : ad208.block ≠ g := Nat.ne_of_lt (Nat.lt_of_lt_of_le (by have := World.block_lt_of_cell? _ _ hx208_0; first | rwa [add_block] at this | exact this) (IsS99.ge HI0.out))
  replace hx208_0 := pw_cell_below HB.out hx208_0
  replace hx208_0 := (cell_far (p := ⟨g, 1, none⟩) (by first | (rw [add_block]; exact hn208_0) | (show (Addr.add _ _).block ≠ _; rw [add_block]; exact hn208_0) | exact hn208_0) (.int .i64 (wrap64 (s0_1 + 1)))).trans hx208_0
  (try have hy208_0 := fun (n_ : Nat) => (show (((w.drewN n_).setCell ⟨g, 1, none⟩ (.int .i64 (wrap64 (s0_1 + 1))))).cell? _ = some _ from hx208_0))
  clear hn208_0; replace p208 := eq_true p208; replace q208 := eq_true q208
  go_enter Try.func83, Try.ntmps83
  go_wp2
  repeat (go_quiet (fail); try go_wp2)
  go_ret
  exact ⟨by first | rfl | (simp [errW_none, errW_some] <;> rfl) | (simp only [← hji4]; first | rfl | (simp [errW_none, errW_some] <;> rfl)) | (simp [*, errW_none, errW_some] <;> rfl), by repeat (first | (with_reducible first | exact HI0.out | apply IsS99.alloc | apply IsS99.drewN | apply IsS99.drew | apply IsS99.set_1) | exact HI0.out), by repeat (first | (with_reducible first | exact HB.out | apply below_alloc | apply pw_below_drewN | apply below_drew1 | refine below_set ?_ (IsS99.ge HI0.out)) | exact HB.out), sAKeep_9⟩

/-! ### spec_l1Rd_below: function 56 -/
def spec_l1Rd_below.f (s0_0 : List Int) (s0_1 : Int) (a1 : Int) : Option (Int × Int) := if a1 ≤ 1 then (some (0, s0_1)) else (if a1 ≤ 256 then ((spec_l1Rd_next.f s0_0 s0_1).bind fun bt209 => (if a1 = 0 then (none) else (some (Int.tmod bt209.1 a1, bt209.2)))) else ((spec_l1Rd_next.f s0_0 s0_1).bind fun bt211 => ((spec_l1Rd_next.f s0_0 bt211.2).bind fun bt213 => (if a1 = 0 then (none) else (some (Int.tmod (wrap64 ((wrap64 (bt211.1 * 256)) + bt213.1)) a1, bt213.2))))))
set_option maxHeartbeats 8000000 in
set_option maxRecDepth 100000 in
theorem spec_l1Rd_below.calls (g : Nat) (s0_0 : List Int) (s0_1 : Int) (a1 : Int) (r1 : Int) (r2 : Int) (w0 w : World) (hI : IsS99 w0 w g s0_0 s0_1) (hB : Below w0.heap.size w0 w) (h : spec_l1Rd_below.f s0_0 s0_1 a1 = some (r1, r2)) :
  Calls Try.prog 56 #[.pointer (some ⟨g, 0, none⟩), .int .i64 a1] w fun e w' => e = .returned (.int .i64 r1) ∧ IsS99 w0 w' g s0_0 r2 ∧ Below w0.heap.size w0 w' ∧ KeepBut w w' g none := by
 have HI0 := mk_ hI
 have HK := mk_ (KeepBut.refl w g none)
 have HL := mk_ hB.size; clear hI; have HW0 := mk_ hB.size; have HB := mk_ hB; clear hB
 have H : (if a1 ≤ 1 then (some (0, s0_1)) else (if a1 ≤ 256 then ((spec_l1Rd_next.f s0_0 s0_1).bind fun bt209 => (if a1 = 0 then (none) else (some (Int.tmod bt209.1 a1, bt209.2)))) else ((spec_l1Rd_next.f s0_0 s0_1).bind fun bt211 => ((spec_l1Rd_next.f s0_0 bt211.2).bind fun bt213 => (if a1 = 0 then (none) else (some (Int.tmod (wrap64 ((wrap64 (bt211.1 * 256)) + bt213.1)) a1, bt213.2))))))) = some (r1, r2) := h
 clear h
 by_cases c3 : a1 ≤ 1
 ·rw [if_pos c3] at H
  have c3b0 := decide_eq_true c3
  clear c3
  simp only [Option.some.injEq, Prod.mk.injEq] at H
  obtain ⟨rfl, rfl⟩ := H
  go_enter Try.func56, Try.ntmps56
  go_wp2
  go_ret
  exact ⟨eW_, by repeat (first | (with_reducible first | exact HI0.out | apply IsS99.alloc | apply IsS99.drewN | apply IsS99.drew | apply IsS99.set_1) | exact HI0.out), by repeat (first | (with_reducible first | exact HB.out | apply below_alloc | apply pw_below_drewN | apply below_drew1 | refine below_set ?_ (IsS99.ge HI0.out)) | exact HB.out), sAKeep_9⟩
 ·rw [if_neg c3] at H
  have c3b0 := decide_eq_false c3
  clear c3
  by_cases c4 : a1 ≤ 256
  ·rw [if_pos c4] at H
   have c4b0 := decide_eq_true c4
   clear c4; replace H := Option.bind_eq_some_iff.mp H
   obtain ⟨⟨t209, t210⟩, A50, H⟩ := H
   (try dsimp only at H)
   have A5 := mk_ A50; clear A50
   by_cases c6 : a1 = 0
   ·rw [if_pos c6] at H
    exact absurd H (by simp)
   ·rw [if_neg c6] at H
    have c6b0 := beq_eq_false_iff_ne.mpr c6
    have c6b1 := bne_iff_ne.mpr c6
    simp only [Option.some.injEq, Prod.mk.injEq] at H
    obtain ⟨rfl, rfl⟩ := H
    go_enter Try.func56, Try.ntmps56
    go_wp2_with (first | ((with_reducible refine gate_callee (f := 83) rfl ?_); refine gL_ (some 11) Try.func83 #[.pointer (some ⟨g, 0, none⟩)] ?_; (with_reducible refine (spec_l1Rd_next.calls g s0_0 s0_1 t209 t210 w0 _ ?side1 ?side2 A5.out).mono ?_); (case side1 => repeat (first | (with_reducible first | exact HI0.out | apply IsS99.alloc | apply IsS99.drewN | apply IsS99.drew | apply IsS99.set_1) | exact HI0.out)); (case side2 => exact sABelo_9); rintro e w7 ⟨rfl, hi, hb, hk⟩; refine ⟨_, rfl, ?_⟩; replace HK := mk_ (KeepBut.trans (w := w) (row := none) sAKeep_9 hk (.inl rfl)); replace HB := mk_ (hb); replace HI0 := mk_ (hi); (try clear hb); (try clear hk); (try clear hi)))
    go_ret
    exact ⟨eW_, by repeat (first | (with_reducible first | exact HI0.out | apply IsS99.alloc | apply IsS99.drewN | apply IsS99.drew | apply IsS99.set_1) | exact HI0.out), by repeat (first | (with_reducible first | exact HB.out | apply below_alloc | apply pw_below_drewN | apply below_drew1 | refine below_set ?_ (IsS99.ge HI0.out)) | exact HB.out), sAKeep_9⟩
  ·rw [if_neg c4] at H
   have c4b0 := decide_eq_false c4
   clear c4; replace H := Option.bind_eq_some_iff.mp H
   obtain ⟨⟨t211, t212⟩, A80, H⟩ := H
   (try dsimp only at H)
   have A8 := mk_ A80; clear A80; replace H := Option.bind_eq_some_iff.mp H
   obtain ⟨⟨t213, t214⟩, A90, H⟩ := H
   (try dsimp only at H)
   have A9 := mk_ A90; clear A90
   by_cases c10 : a1 = 0
   ·rw [if_pos c10] at H
    exact absurd H (by simp)
   ·rw [if_neg c10] at H
    have c10b0 := beq_eq_false_iff_ne.mpr c10
    have c10b1 := bne_iff_ne.mpr c10
    simp only [Option.some.injEq, Prod.mk.injEq] at H
    obtain ⟨rfl, rfl⟩ := H
    go_enter Try.func56, Try.ntmps56
    go_wp2_with (first | ((with_reducible refine gate_callee (f := 83) rfl ?_); refine gL_ (some 15) Try.func83 #[.pointer (some ⟨g, 0, none⟩)] ?_; (with_reducible refine (spec_l1Rd_next.calls g s0_0 s0_1 t211 t212 w0 _ ?side1 ?side2 A8.out).mono ?_); (case side1 => repeat (first | (with_reducible first | exact HI0.out | apply IsS99.alloc | apply IsS99.drewN | apply IsS99.drew | apply IsS99.set_1) | exact HI0.out)); (case side2 => exact sABelo_9); rintro e w11 ⟨rfl, hi, hb, hk⟩; refine ⟨_, rfl, ?_⟩; replace HK := mk_ (KeepBut.trans (w := w) (row := none) sAKeep_9 hk (.inl rfl)); replace HB := mk_ (hb); replace HI0 := mk_ (hi); (try clear hb); (try clear hk); (try clear hi)) | ((with_reducible refine gate_callee (f := 83) rfl ?_); refine gL_ (some 19) Try.func83 #[.pointer (some ⟨g, 0, none⟩)] ?_; (with_reducible refine (spec_l1Rd_next.calls g s0_0 t212 t213 t214 w0 _ ?side1 ?side2 A9.out).mono ?_); (case side1 => repeat (first | (with_reducible first | exact HI0.out | apply IsS99.alloc | apply IsS99.drewN | apply IsS99.drew | apply IsS99.set_1) | exact HI0.out)); (case side2 => exact sABelo_9); rintro e w12 ⟨rfl, hi, hb, hk⟩; refine ⟨_, rfl, ?_⟩; replace HK := mk_ (KeepBut.trans (w := w) (row := none) sAKeep_9 hk (.inl rfl)); replace HB := mk_ (hb); replace HI0 := mk_ (hi); (try clear hb); (try clear hk); (try clear hi)))
    go_ret
    exact ⟨eW_, by repeat (first | (with_reducible first | exact HI0.out | apply IsS99.alloc | apply IsS99.drewN | apply IsS99.drew | apply IsS99.set_1) | exact HI0.out), by repeat (first | (with_reducible first | exact HB.out | apply below_alloc | apply pw_below_drewN | apply below_drew1 | refine below_set ?_ (IsS99.ge HI0.out)) | exact HB.out), sAKeep_9⟩

/-! ### spec_l1Rd_once: function 57 -/
def spec_l1Rd_once.f (s0_0 : List Int) (s0_1 : Int) (a1 : Int) : Option (Bool × Int) := (spec_l1Rd_below.f s0_0 s0_1 a1).bind fun bt215 => (some ((bt215.1 == (wrap64 (a1 - 1))), bt215.2))
set_option maxHeartbeats 8000000 in
set_option maxRecDepth 100000 in
theorem spec_l1Rd_once.calls (g : Nat) (s0_0 : List Int) (s0_1 : Int) (a1 : Int) (r1 : Bool) (r2 : Int) (w0 w : World) (hI : IsS99 w0 w g s0_0 s0_1) (hB : Below w0.heap.size w0 w) (h : spec_l1Rd_once.f s0_0 s0_1 a1 = some (r1, r2)) :
  Calls Try.prog 57 #[.pointer (some ⟨g, 0, none⟩), .int .i64 a1] w fun e w' => e = .returned (.bool r1) ∧ IsS99 w0 w' g s0_0 r2 ∧ Below w0.heap.size w0 w' ∧ KeepBut w w' g none := by
 have HI0 := mk_ hI
 have HK := mk_ (KeepBut.refl w g none)
 have HL := mk_ hB.size; clear hI; have HW0 := mk_ hB.size; have HB := mk_ hB; clear hB
 have H : ((spec_l1Rd_below.f s0_0 s0_1 a1).bind fun bt215 => (some ((bt215.1 == (wrap64 (a1 - 1))), bt215.2))) = some (r1, r2) := h
 clear h; replace H := Option.bind_eq_some_iff.mp H
 obtain ⟨⟨t215, t216⟩, A30, H⟩ := H
 (try dsimp only at H)
 have A3 := mk_ A30; clear A30
 simp only [Option.some.injEq, Prod.mk.injEq] at H
 obtain ⟨rfl, rfl⟩ := H
 go_enter Try.func57, Try.ntmps57
 go_wp2_with (first | ((with_reducible refine gate_callee (f := 56) rfl ?_); refine gL_ (some 7) Try.func56 #[.pointer (some ⟨g, 0, none⟩), .int .i64 a1] ?_; (with_reducible refine (spec_l1Rd_below.calls g s0_0 s0_1 a1 t215 t216 w0 _ ?side1 ?side2 A3.out).mono ?_); (case side1 => repeat (first | (with_reducible first | exact HI0.out | apply IsS99.alloc | apply IsS99.drewN | apply IsS99.drew | apply IsS99.set_1) | exact HI0.out)); (case side2 => exact sABelo_9); rintro e w4 ⟨rfl, hi, hb, hk⟩; refine ⟨_, rfl, ?_⟩; replace HK := mk_ (KeepBut.trans (w := w) (row := none) sAKeep_9 hk (.inl rfl)); replace HB := mk_ (hb); replace HI0 := mk_ (hi); (try clear hb); (try clear hk); (try clear hi)))
 go_ret
 exact ⟨eW_, by repeat (first | (with_reducible first | exact HI0.out | apply IsS99.alloc | apply IsS99.drewN | apply IsS99.drew | apply IsS99.set_1) | exact HI0.out), by repeat (first | (with_reducible first | exact HB.out | apply below_alloc | apply pw_below_drewN | apply below_drew1 | refine below_set ?_ (IsS99.ge HI0.out)) | exact HB.out), sAKeep_9⟩

end Go.Proofs.Ytjoghfehmhapbaa.QFnReportsAnyway
