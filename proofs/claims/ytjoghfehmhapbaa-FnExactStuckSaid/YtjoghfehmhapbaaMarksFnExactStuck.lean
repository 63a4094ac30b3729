/- The law's marks on a suite and a run: what the lists hold behind the call; no condition but that the rows are the caller's own, and apart. -/
import Derived.Test.YtjoghfehmhapbaaMarkTaskFnExactStuck
import Derived.Test.YtjoghfehmhapbaaQFnExactStuckx10
import Derived.Test.YtjoghfehmhapbaaBetLib
import Derived.Test.YtjoghfehmhapbaaSq
set_option linter.unusedVariables false
set_option linter.unusedSimpArgs false
namespace Go.Proofs.Ytjoghfehmhapbaa.QFnExactStuck
open Go.Proofs.Ytjoghfehmhapbaa.Sq Go.RowKit Go.Proofs.YtjoghfehmhapbaaW.PrintWords Go.Proofs.YtjoghfehmhapbaaW.PrintLast Go.Proofs.YtjoghfehmhapbaaW.PrintMore Go.Proofs.Ytjoghfehmhapbaa.Bet
attribute [local go_sem] max2_int min2_int max_two min_two max_three min_three max_four min_four   -- for this text's walks alone

def laws_markSuite.f (k : Nat) (l0 : List S39) (l1 : List Int) (a1 : Int) : Option (Int × List S39 × List Int) := (laws_markTaskS.f k l0 a1).bind fun b => ((laws_markInt64S.f k l1 b.1).bind fun c => (some (c.1, b.2, c.2)))
theorem laws_markSuite.mono : ∀ a0 a1 a2 k, LeO (laws_markSuite.f k a0 a1 a2) (laws_markSuite.f (k + 1) a0 a1 a2) := by
  intro a0 a1 a2 k
  unfold laws_markSuite.f
  repeat' first
      | (with_reducible exact laws_markInt64S.mono _ _ _)
      | (with_reducible exact laws_markTaskS.mono _ _ _)
      | (with_reducible exact LeO.refl _)
      | (with_reducible refine LeO.bind ?_ (fun _ => ?_))
set_option maxHeartbeats 8000000 in
set_option maxRecDepth 100000 in
theorem laws_markSuite.calls (k : Nat) (P0_ P1_ : Nat → Prop) (u0_ u1_ : Value) (l0 : List S39) (l1 : List Int) (a1 : Int) (r1 : Int) (r2 : List S39) (r3 : List Int) (w0 w : World) (hB : Below w0.heap.size w0 w) (ho0 : Kd.S k39 39 w w0.heap.size P0_ u0_ l0) (ho1 : Kd.R (Kd.int .i64) 2 w w0.heap.size P1_ u1_ l1) (hp : ∀ k_, P0_ k_ → ¬ P1_ k_) (h : laws_markSuite.f k l0 l1 a1 = some (r1, r2, r3)) :
    Calls Try.prog 31 #[.agg #[u0_, u1_], .int .i64 a1] w fun e w' => e = .returned (.int .i64 r1) ∧ Kd.S k39 39 w' w0.heap.size P0_ u0_ r2 ∧ Kd.R (Kd.int .i64) 2 w' w0.heap.size P1_ u1_ r3 ∧ Below w0.heap.size w0 w' ∧ Kept w w' (fun k_ => P0_ k_ ∨ P1_ k_) := by
  have hu27 := Try.underlying27
  obtain ⟨A0, c0, rfl⟩ := Kd.S_slice ho0
  obtain ⟨A1, c1, rfl⟩ := Kd.R_slice ho1
  have HO0 := Aside0.mk (Kd.S_mono (ok' := fun k_ => P0_ k_ ∧ k_ < w.heap.size) (Kd.S_bound ho0) (fun k_ hk => ⟨hk.1, hk.2.2.1⟩))
  have HO1 := Aside0.mk (Kd.R_mono (ok' := fun k_ => P1_ k_ ∧ k_ < w.heap.size) (Kd.R_bound ho1) (fun k_ hk => ⟨hk.1, hk.2.2.1⟩))
  have HB := Aside0.mk hB
  have HP := Aside0.mk hp
  clear ho0 ho1 hB hp
  obtain ⟨⟨t1, q0⟩, A10, H⟩ := Option.bind_eq_some_iff.mp h
  have AA1 := Aside0.mk A10
  clear A10 h
  obtain ⟨⟨t2, q1⟩, A20, H⟩ := Option.bind_eq_some_iff.mp H
  have AA2 := Aside0.mk A20
  clear A20
  simp only [Option.some.injEq, Prod.mk.injEq] at H
  obtain ⟨rfl, rfl, rfl⟩ := H
  go_enter Try.func31, Try.ntmps31
  go_wp2_with (first | ((with_reducible refine gate_dst (N := 2) rfl ?_); refine box_event ?hg (N := 2) ?hd (cs := #[.slice A0 l0.length c0, .slice A1 l1.length c1]) (t := 27) ?hr ?_; (case hd => rfl); (case hg => rfl); (case hr => first | (go_simp; done) | (go_simp; rfl)); intro gb hg w5 hbox hb; have n0_ := Aside0.mk (Kd.S_below HO0.out hb); have n1_ := Aside0.mk (Kd.R_below HO1.out hb); have n2_ := Aside0.mk (below_step HB.out hb); have n3_ := Aside0.mk (Kept.of_below hb (fun k_ => P0_ k_ ∨ P1_ k_)); have n4_ := Aside0.mk (Nat.le_of_eq hg.symm : w.heap.size ≤ gb); have n5_ := Aside0.mk hbox; clear HO0 HO1 HB hb hbox hg; have HO0 := n0_; have HO1 := n1_; have HB := n2_; have HK := n3_; have HG := n4_; have BK := n5_; clear n0_ n1_ n2_ n3_ n4_ n5_; have hcz_0 : w5.cell? ⟨gb, 0, none⟩ = some (.slice A0 l0.length c0) := (blk_cell BK.out 0).trans rfl; have hcz_1 : w5.cell? ⟨gb, 1, none⟩ = some (.slice A1 l1.length c1) := (blk_cell BK.out 1).trans rfl; have hfz_0 := blk_frozen BK.out 0; have hfz_1 := blk_frozen BK.out 1) | ((with_reducible refine gate_callee (f := 68) rfl ?_); refine goesL_ (some 8) rfl rfl Try.func68 (by kernel_rfl) rfl #[.slice A0 l0.length c0, .int .i64 a1] rfl (by (try simp only [List.map_toArray, List.map_cons, List.map_nil]); first | done | rfl) ?_; (with_reducible refine (laws_markTaskS.calls k (fun k_ => P0_ k_ ∧ k_ < w.heap.size) (.slice A0 l0.length c0) l0 a1 t1 q0 w0 _ HB.out HO0.out AA1.out).mono ?_); rintro e w6 ⟨rfl, hs, hb, hk⟩; refine ⟨_, rfl, ?_⟩; have n0_ := Aside0.mk hs; have n1_ := Aside0.mk (R_kept HO1.out rfl hk (fun k_ h1 _ _ h0 => HP.out k_ h0.1 h1.1)); have n2_ := Aside0.mk hb; have n3_ := Aside0.mk (Kept.then_ HK.out hk (fun k_ h_ => .inl (.inl h_.1))); have n4_ := Aside0.mk (blk_kp BK.out hk (fun h_ => absurd h_.2 (Nat.not_lt.2 HG.out))); clear HO0 HO1 HB HK BK hs hb hk hcz_0 hcz_1 hfz_0 hfz_1; have HO0 := n0_; have HO1 := n1_; have HB := n2_; have HK := n3_; have BK := n4_; clear n0_ n1_ n2_ n3_ n4_; have hcz_0 : w6.cell? ⟨gb, 0, none⟩ = some (.slice A0 l0.length c0) := (blk_cell BK.out 0).trans rfl; have hcz_1 : w6.cell? ⟨gb, 1, none⟩ = some (.slice A1 l1.length c1) := (blk_cell BK.out 1).trans rfl; have hfz_0 := blk_frozen BK.out 0; have hfz_1 := blk_frozen BK.out 1) | ((with_reducible refine gate_callee (f := 38) rfl ?_); refine goesL_ (some 12) rfl rfl Try.func38 (by kernel_rfl) rfl #[.slice A1 l1.length c1, .int .i64 t1] rfl (by (try simp only [List.map_toArray, List.map_cons, List.map_nil]); first | done | rfl) ?_; (with_reducible refine (laws_markInt64S.calls k (fun k_ => P1_ k_ ∧ k_ < w.heap.size) (.slice A1 l1.length c1) l1 t1 t2 q1 w0 _ HB.out HO1.out AA2.out).mono ?_); rintro e w7 ⟨rfl, hs, hb, hk⟩; refine ⟨_, rfl, ?_⟩; have n0_ := Aside0.mk (Kd.S_step HO0.out (fun k_ h0 hlt => hk.2 k_ hlt (fun h1 => HP.out k_ h0.1 h1.1))); have n1_ := Aside0.mk (Kd.R_mono (ok' := P1_) (Kd.R_tight2 rfl hs) (fun k_ h_ => (HO1.out.1 k_ h_.1.symm).1)); have n2_ := Aside0.mk hb; have n3_ := Aside0.mk (Kept.then_ HK.out hk (fun k_ h_ => .inl (.inr h_.1))); clear HO0 HO1 HB HK BK hs hb hk hcz_0 hcz_1 hfz_0 hfz_1; have HO0 := n0_; have HO1 := n1_; have HB := n2_; have HK := n3_; clear n0_ n1_ n2_ n3_))
  go_ret
  exact ⟨rfl, Kd.S_mono HO0.out (fun k_ h_ => h_.1), HO1.out, HB.out, HK.out⟩

def laws_markRun.f (k : Nat) (l0 : List S39) (l1 : List Int) (_a2 : Int) (l3 : List S43) (a1 : Int) : Option (Int × List S39 × List Int × List S43) := (laws_markSuite.f k l0 l1 a1).bind fun b => ((laws_markJobS.f k l3 b.1).bind fun c => (some (c.1, b.2.1, b.2.2, c.2)))
theorem laws_markRun.mono : ∀ a0 a1 a2 a3 a4 k, LeO (laws_markRun.f k a0 a1 a2 a3 a4) (laws_markRun.f (k + 1) a0 a1 a2 a3 a4) := by
  intro a0 a1 a2 a3 a4 k
  unfold laws_markRun.f
  repeat' first
      | (with_reducible exact laws_markSuite.mono _ _ _ _)
      | (with_reducible exact laws_markJobS.mono _ _ _)
      | (with_reducible exact LeO.refl _)
      | (with_reducible refine LeO.bind ?_ (fun _ => ?_))
set_option maxHeartbeats 8000000 in
set_option maxRecDepth 100000 in
theorem laws_markRun.calls (k : Nat) (P0_ P1_ P3_ : Nat → Prop) (u0_ u1_ u3_ : Value) (l0 : List S39) (l1 : List Int) (a2 : Int) (l3 : List S43) (a1 : Int) (r1 : Int) (r2 : List S39) (r3 : List Int) (r4 : List S43) (w0 w : World) (hB : Below w0.heap.size w0 w) (ho0 : Kd.S k39 39 w w0.heap.size P0_ u0_ l0) (ho1 : Kd.R (Kd.int .i64) 2 w w0.heap.size P1_ u1_ l1) (ho3 : Kd.R k43 43 w w0.heap.size P3_ u3_ l3) (hp : ∀ k_, P0_ k_ → ¬ P1_ k_) (hp0 : ∀ k_, P0_ k_ → ¬ P3_ k_) (hp1 : ∀ k_, P1_ k_ → ¬ P3_ k_) (h : laws_markRun.f k l0 l1 a2 l3 a1 = some (r1, r2, r3, r4)) :
    Calls Try.prog 32 #[.agg #[u0_, u1_, .int .i64 a2, u3_], .int .i64 a1] w fun e w' => e = .returned (.int .i64 r1) ∧ Kd.S k39 39 w' w0.heap.size P0_ u0_ r2 ∧ Kd.R (Kd.int .i64) 2 w' w0.heap.size P1_ u1_ r3 ∧ Kd.R k43 43 w' w0.heap.size P3_ u3_ r4 ∧ Below w0.heap.size w0 w' ∧ Kept w w' (fun k_ => (P0_ k_ ∨ P1_ k_) ∨ P3_ k_) := by
  have hu31 := Try.underlying31
  have hu27 := Try.underlying27
  obtain ⟨A0, c0, rfl⟩ := Kd.S_slice ho0
  obtain ⟨A1, c1, rfl⟩ := Kd.R_slice ho1
  obtain ⟨A3, c3, rfl⟩ := Kd.R_slice ho3
  have HO0 := Aside0.mk (Kd.S_mono (ok' := fun k_ => P0_ k_ ∧ k_ < w.heap.size) (Kd.S_bound ho0) (fun k_ hk => ⟨hk.1, hk.2.2.1⟩))
  have HO1 := Aside0.mk (Kd.R_mono (ok' := fun k_ => P1_ k_ ∧ k_ < w.heap.size) (Kd.R_bound ho1) (fun k_ hk => ⟨hk.1, hk.2.2.1⟩))
  have HO3 := Aside0.mk (Kd.R_mono (ok' := fun k_ => P3_ k_ ∧ k_ < w.heap.size) (Kd.R_bound ho3) (fun k_ hk => ⟨hk.1, hk.2.2.1⟩))
  have HB := Aside0.mk hB
  have HP := Aside0.mk hp
  have HP0 := Aside0.mk hp0
  have HP1 := Aside0.mk hp1
  have HPB : Aside0 (∀ k_, (P0_ k_ ∧ k_ < w.heap.size) → ¬ (P1_ k_ ∧ k_ < w.heap.size)) := ⟨fun k_ h0 h1 => hp k_ h0.1 h1.1⟩
  clear ho0 ho1 ho3 hB hp hp0 hp1
  obtain ⟨⟨t1, q0, q1⟩, A10, H⟩ := Option.bind_eq_some_iff.mp h
  have AA1 := Aside0.mk A10
  clear A10 h
  obtain ⟨⟨t2, q3⟩, A20, H⟩ := Option.bind_eq_some_iff.mp H
  have AA2 := Aside0.mk A20
  clear A20
  simp only [Option.some.injEq, Prod.mk.injEq] at H
  obtain ⟨rfl, rfl, rfl, rfl⟩ := H
  go_enter Try.func32, Try.ntmps32
  go_wp2_with (first | ((with_reducible refine gate_dst (N := 2) rfl ?_); refine box_event ?hg (N := 2) ?hd (cs := #[.slice A0 l0.length c0, .slice A1 l1.length c1, .int .i64 a2, .slice A3 l3.length c3]) (t := 31) ?hr ?_; (case hd => rfl); (case hg => rfl); (case hr => first | (go_simp; done) | (go_simp; rfl)); intro gb hg w5 hbox hb; have n0_ := Aside0.mk (Kd.S_below HO0.out hb); have n1_ := Aside0.mk (Kd.R_below HO1.out hb); have n6_ := Aside0.mk (Kd.R_below HO3.out hb); have n2_ := Aside0.mk (below_step HB.out hb); have n3_ := Aside0.mk (Kept.of_below hb (fun k_ => (P0_ k_ ∨ P1_ k_) ∨ P3_ k_)); have n4_ := Aside0.mk (Nat.le_of_eq hg.symm : w.heap.size ≤ gb); have n5_ := Aside0.mk hbox; clear HO0 HO1 HO3 HB hb hbox hg; have HO0 := n0_; have HO1 := n1_; have HO3 := n6_; have HB := n2_; have HK := n3_; have HG := n4_; have BK := n5_; clear n0_ n1_ n2_ n3_ n4_ n5_ n6_; have hcz_0 : w5.cell? ⟨gb, 0, none⟩ = some (.slice A0 l0.length c0) := (blk_cell BK.out 0).trans rfl; have hcz_1 : w5.cell? ⟨gb, 1, none⟩ = some (.slice A1 l1.length c1) := (blk_cell BK.out 1).trans rfl; have hcz_3 : w5.cell? ⟨gb, 3, none⟩ = some (.slice A3 l3.length c3) := (blk_cell BK.out 3).trans rfl; have hfz_0 := blk_frozen BK.out 0; have hfz_1 := blk_frozen BK.out 1; have hfz_3 := blk_frozen BK.out 3) | ((with_reducible refine gate_callee (f := 31) rfl ?_); refine goesL_ (some 8) rfl rfl Try.func31 (by kernel_rfl) rfl #[.agg #[.slice A0 l0.length c0, .slice A1 l1.length c1], .int .i64 a1] rfl (by (try simp only [List.map_toArray, List.map_cons, List.map_nil]); first | done | rfl) ?_; (with_reducible refine (laws_markSuite.calls k (fun k_ => P0_ k_ ∧ k_ < w.heap.size) (fun k_ => P1_ k_ ∧ k_ < w.heap.size) (.slice A0 l0.length c0) (.slice A1 l1.length c1) l0 l1 a1 t1 q0 q1 w0 _ HB.out HO0.out HO1.out HPB.out AA1.out).mono ?_); rintro e w6 ⟨rfl, hs, hs1, hb, hk⟩; refine ⟨_, rfl, ?_⟩; have n0_ := Aside0.mk hs; have n1_ := Aside0.mk hs1; have n5_ := Aside0.mk (Kd.R_step HO3.out (fun k_ h3 hlt => hk.2 k_ hlt (fun h_ => h_.elim (fun h_ => HP0.out k_ h_.1 h3.1) (fun h_ => HP1.out k_ h_.1 h3.1)))); have n2_ := Aside0.mk hb; have n3_ := Aside0.mk (Kept.then_ HK.out hk (fun k_ h_ => .inl (.inl (h_.imp And.left And.left)))); have n4_ := Aside0.mk (blk_kp BK.out hk (fun h_ => h_.elim (fun h_ => absurd h_.2 (Nat.not_lt.2 HG.out)) (fun h_ => absurd h_.2 (Nat.not_lt.2 HG.out)))); clear HO0 HO1 HO3 HB HK BK hs hs1 hb hk hcz_0 hcz_1 hcz_3 hfz_0 hfz_1 hfz_3; have HO0 := n0_; have HO1 := n1_; have HO3 := n5_; have HB := n2_; have HK := n3_; have BK := n4_; clear n0_ n1_ n2_ n3_ n4_ n5_; have hcz_3 : w6.cell? ⟨gb, 3, none⟩ = some (.slice A3 l3.length c3) := (blk_cell BK.out 3).trans rfl; have hfz_3 := blk_frozen BK.out 3) | ((with_reducible refine gate_callee (f := 69) rfl ?_); refine goesL_ (some 12) rfl rfl Try.func69 (by kernel_rfl) rfl #[.slice A3 l3.length c3, .int .i64 t1] rfl (by (try simp only [List.map_toArray, List.map_cons, List.map_nil]); first | done | rfl) ?_; (with_reducible refine (laws_markJobS.calls k (fun k_ => P3_ k_ ∧ k_ < w.heap.size) (.slice A3 l3.length c3) l3 t1 t2 q3 w0 _ HB.out HO3.out AA2.out).mono ?_); rintro e w7 ⟨rfl, hs, hb, hk⟩; refine ⟨_, rfl, ?_⟩; have n0_ := Aside0.mk (Kd.S_step HO0.out (fun k_ h0 hlt => hk.2 k_ hlt (fun h1 => HP0.out k_ h0.1 h1.1))); have n1_ := Aside0.mk (Kd.R_step HO1.out (fun k_ h0 hlt => hk.2 k_ hlt (fun h1 => HP1.out k_ h0.1 h1.1))); have n5_ := Aside0.mk (Kd.R_mono (ok' := P3_) (Kd.R_tight2 rfl hs) (fun k_ h_ => (HO3.out.1 k_ h_.1.symm).1)); have n2_ := Aside0.mk hb; have n3_ := Aside0.mk (Kept.then_ HK.out hk (fun k_ h_ => .inl (.inr h_.1))); clear HO0 HO1 HO3 HB HK BK hs hb hk hcz_3 hfz_3; have HO0 := n0_; have HO1 := n1_; have HO3 := n5_; have HB := n2_; have HK := n3_; clear n0_ n1_ n2_ n3_ n5_))
  go_ret
  exact ⟨rfl, Kd.S_mono HO0.out (fun k_ h_ => h_.1), Kd.R_mono HO1.out (fun k_ h_ => h_.1), HO3.out, HB.out, HK.out⟩
end Go.Proofs.Ytjoghfehmhapbaa.QFnExactStuck
