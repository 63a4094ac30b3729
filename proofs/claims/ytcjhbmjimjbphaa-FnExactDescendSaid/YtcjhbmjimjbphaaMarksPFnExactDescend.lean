/- The law's marks on a problem: what the lists hold behind the call; no condition but that the rows are the caller's own, and apart. -/
import Derived.Test.YtcjhbmjimjbphaaMarkRowFnExactDescend
import Derived.Test.YtcjhbmjimjbphaaBetLib
import Derived.Test.YtcjhbmjimjbphaaSq
set_option linter.unusedVariables false
set_option linter.unusedSimpArgs false
namespace Go.Proofs.Ytcjhbmjimjbphaa.QFnExactDescend
open Go.Proofs.Ytcjhbmjimjbphaa.Sq Go.RowKit Go.Proofs.YtcjhbmjimjbphaaW.PrintWords Go.Proofs.YtcjhbmjimjbphaaW.PrintLast Go.Proofs.YtcjhbmjimjbphaaW.PrintMore Go.Proofs.Ytcjhbmjimjbphaa.Bet
attribute [local go_sem] max2_int min2_int max_two min_two max_three min_three max_four min_four   -- for this text's walks alone

def laws_markProblem.f (k : Nat) (_a0 : Int) (l1 l2 : List Int) (l3 : List S52) (a1 : Int) : Option (Int × List Int × List Int × List S52) := (laws_markInt64S.f k l1 a1).bind fun b => ((laws_markInt64S.f k l2 b.1).bind fun c => ((laws_markRowS.f k l3 c.1).bind fun d => (some (d.1, b.2, c.2, d.2))))
theorem laws_markProblem.mono : ∀ a0 a1 a2 a3 a4 k, LeO (laws_markProblem.f k a0 a1 a2 a3 a4) (laws_markProblem.f (k + 1) a0 a1 a2 a3 a4) := by
  intro a0 a1 a2 a3 a4 k
  unfold laws_markProblem.f
  repeat' first
      | (with_reducible exact laws_markInt64S.mono _ _ _)
      | (with_reducible exact laws_markRowS.mono _ _ _)
      | (with_reducible exact LeO.refl _)
      | (with_reducible refine LeO.bind ?_ (fun _ => ?_))
set_option maxHeartbeats 8000000 in
set_option maxRecDepth 100000 in
theorem laws_markProblem.calls (k : Nat) (P1_ P2_ P3_ : Nat → Prop) (u1_ u2_ u3_ : Value) (a0 : Int) (l1 l2 : List Int) (l3 : List S52) (a1 : Int) (r1 : Int) (r2 r3 : List Int) (r4 : List S52) (w0 w : World) (hB : Below w0.heap.size w0 w) (ho1 : Kd.R (Kd.int .i64) 2 w w0.heap.size P1_ u1_ l1) (ho2 : Kd.R (Kd.int .i64) 2 w w0.heap.size P2_ u2_ l2) (ho3 : Kd.S k52 52 w w0.heap.size P3_ u3_ l3) (hp12 : ∀ k_, P1_ k_ → ¬ P2_ k_) (hp31 : ∀ k_, P3_ k_ → ¬ P1_ k_) (hp32 : ∀ k_, P3_ k_ → ¬ P2_ k_) (h : laws_markProblem.f k a0 l1 l2 l3 a1 = some (r1, r2, r3, r4)) :
    Calls Try.prog 19 #[.agg #[.int .i64 a0, u1_, u2_, u3_], .int .i64 a1] w fun e w' => e = .returned (.int .i64 r1) ∧ Kd.R (Kd.int .i64) 2 w' w0.heap.size P1_ u1_ r2 ∧ Kd.R (Kd.int .i64) 2 w' w0.heap.size P2_ u2_ r3 ∧ Kd.S k52 52 w' w0.heap.size P3_ u3_ r4 ∧ Below w0.heap.size w0 w' ∧ Kept w w' (fun k_ => (P1_ k_ ∨ P2_ k_) ∨ P3_ k_) := by
  have hu30 := Try.underlying30
  obtain ⟨A1, c1, rfl⟩ := Kd.R_slice ho1
  obtain ⟨A2, c2, rfl⟩ := Kd.R_slice ho2
  obtain ⟨A3, c3, rfl⟩ := Kd.S_slice ho3
  have HO1 := Aside0.mk (Kd.R_mono (ok' := fun k_ => P1_ k_ ∧ k_ < w.heap.size) (Kd.R_bound ho1) (fun k_ hk => ⟨hk.1, hk.2.2.1⟩))
  have HO2 := Aside0.mk (Kd.R_mono (ok' := fun k_ => P2_ k_ ∧ k_ < w.heap.size) (Kd.R_bound ho2) (fun k_ hk => ⟨hk.1, hk.2.2.1⟩))
  have HO3 := Aside0.mk (Kd.S_mono (ok' := fun k_ => P3_ k_ ∧ k_ < w.heap.size) (Kd.S_bound ho3) (fun k_ hk => ⟨hk.1, hk.2.2.1⟩))
  have HB := Aside0.mk hB
  have HP12 := Aside0.mk hp12
  have HP31 := Aside0.mk hp31
  have HP32 := Aside0.mk hp32
  clear ho1 ho2 ho3 hB hp12 hp31 hp32
  obtain ⟨⟨t1, q1⟩, A10, H⟩ := Option.bind_eq_some_iff.mp h
  have AA1 := Aside0.mk A10
  clear A10 h
  obtain ⟨⟨t2, q2⟩, A20, H⟩ := Option.bind_eq_some_iff.mp H
  have AA2 := Aside0.mk A20
  clear A20
  obtain ⟨⟨t3, q3⟩, A30, H⟩ := Option.bind_eq_some_iff.mp H
  have AA3 := Aside0.mk A30
  clear A30
  simp only [Option.some.injEq, Prod.mk.injEq] at H
  obtain ⟨rfl, rfl, rfl, rfl⟩ := H
  go_enter Try.func19, Try.ntmps19
  go_wp2_with (first | ((with_reducible refine gate_dst (N := 2) rfl ?_); refine box_event ?hg (N := 2) ?hd (cs := #[.int .i64 a0, .slice A1 l1.length c1, .slice A2 l2.length c2, .slice A3 l3.length c3]) (t := 30) ?hr ?_; (case hd => rfl); (case hg => rfl); (case hr => first | (go_simp; done) | (go_simp; rfl)); intro gb hg w5 hbox hb; have n1_ := Aside0.mk (Kd.R_below HO1.out hb); have n2_ := Aside0.mk (Kd.R_below HO2.out hb); have n3_ := Aside0.mk (Kd.S_below HO3.out hb); have n4_ := Aside0.mk (below_step HB.out hb); have n5_ := Aside0.mk (Kept.of_below hb (fun k_ => (P1_ k_ ∨ P2_ k_) ∨ P3_ k_)); have n6_ := Aside0.mk (Nat.le_of_eq hg.symm : w.heap.size ≤ gb); have n7_ := Aside0.mk hbox; clear HO1 HO2 HO3 HB hb hbox hg; have HO1 := n1_; have HO2 := n2_; have HO3 := n3_; have HB := n4_; have HK := n5_; have HG := n6_; have BK := n7_; clear n1_ n2_ n3_ n4_ n5_ n6_ n7_; have hcz_1 : w5.cell? ⟨gb, 1, none⟩ = some (.slice A1 l1.length c1) := (blk_cell BK.out 1).trans rfl; have hfz_1 := blk_frozen BK.out 1) | ((with_reducible refine gate_callee (f := 20) rfl ?_); refine goesL_ (some 8) rfl rfl Try.func20 (by kernel_rfl) rfl #[.slice A1 l1.length c1, .int .i64 a1] rfl (by (try simp only [List.map_toArray, List.map_cons, List.map_nil]); first | done | rfl) ?_; (with_reducible refine (laws_markInt64S.calls k (fun k_ => P1_ k_ ∧ k_ < w.heap.size) (.slice A1 l1.length c1) l1 a1 t1 q1 w0 _ HB.out HO1.out AA1.out).mono ?_); rintro e w6 ⟨rfl, hs, hb, hk⟩; refine ⟨_, rfl, ?_⟩; have n1_ := Aside0.mk (Kd.R_mono (ok' := fun k_ => P1_ k_ ∧ k_ < w.heap.size) (Kd.R_tight2 rfl hs) (fun k_ h_ => HO1.out.1 k_ h_.1.symm)); have n2_ := Aside0.mk (Kd.R_step HO2.out (fun k_ h2 hlt => hk.2 k_ hlt (fun h1 => HP12.out k_ h1.1 h2.1))); have n3_ := Aside0.mk (Kd.S_step HO3.out (fun k_ h3 hlt => hk.2 k_ hlt (fun h1 => HP31.out k_ h3.1 h1.1))); have n4_ := Aside0.mk hb; have n5_ := Aside0.mk (Kept.then_ HK.out hk (fun k_ h_ => .inl (.inl (.inl h_.1)))); have n7_ := Aside0.mk (blk_kp BK.out hk (fun h_ => absurd h_.2 (Nat.not_lt.2 HG.out))); clear HO1 HO2 HO3 HB HK BK hs hb hk hcz_1 hfz_1; have HO1 := n1_; have HO2 := n2_; have HO3 := n3_; have HB := n4_; have HK := n5_; have BK := n7_; clear n1_ n2_ n3_ n4_ n5_ n7_; have hcz_2 : w6.cell? ⟨gb, 2, none⟩ = some (.slice A2 l2.length c2) := (blk_cell BK.out 2).trans rfl; have hfz_2 := blk_frozen BK.out 2) | ((with_reducible refine gate_callee (f := 20) rfl ?_); refine goesL_ (some 12) rfl rfl Try.func20 (by kernel_rfl) rfl #[.slice A2 l2.length c2, .int .i64 t1] rfl (by (try simp only [List.map_toArray, List.map_cons, List.map_nil]); first | done | rfl) ?_; (with_reducible refine (laws_markInt64S.calls k (fun k_ => P2_ k_ ∧ k_ < w.heap.size) (.slice A2 l2.length c2) l2 t1 t2 q2 w0 _ HB.out HO2.out AA2.out).mono ?_); rintro e w7 ⟨rfl, hs, hb, hk⟩; refine ⟨_, rfl, ?_⟩; have n1_ := Aside0.mk (Kd.R_step HO1.out (fun k_ h1 hlt => hk.2 k_ hlt (fun h2 => HP12.out k_ h1.1 h2.1))); have n2_ := Aside0.mk (Kd.R_mono (ok' := P2_) (Kd.R_tight2 rfl hs) (fun k_ h_ => (HO2.out.1 k_ h_.1.symm).1)); have n3_ := Aside0.mk (Kd.S_step HO3.out (fun k_ h3 hlt => hk.2 k_ hlt (fun h2 => HP32.out k_ h3.1 h2.1))); have n4_ := Aside0.mk hb; have n5_ := Aside0.mk (Kept.then_ HK.out hk (fun k_ h_ => .inl (.inl (.inr h_.1)))); have n7_ := Aside0.mk (blk_kp BK.out hk (fun h_ => absurd h_.2 (Nat.not_lt.2 HG.out))); clear HO1 HO2 HO3 HB HK BK hs hb hk hcz_2 hfz_2; have HO1 := n1_; have HO2 := n2_; have HO3 := n3_; have HB := n4_; have HK := n5_; have BK := n7_; clear n1_ n2_ n3_ n4_ n5_ n7_; have hcz_3 : w7.cell? ⟨gb, 3, none⟩ = some (.slice A3 l3.length c3) := (blk_cell BK.out 3).trans rfl; have hfz_3 := blk_frozen BK.out 3) | ((with_reducible refine gate_callee (f := 42) rfl ?_); refine goesL_ (some 16) rfl rfl Try.func42 (by kernel_rfl) rfl #[.slice A3 l3.length c3, .int .i64 t2] rfl (by (try simp only [List.map_toArray, List.map_cons, List.map_nil]); first | done | rfl) ?_; (with_reducible refine (laws_markRowS.calls k (fun k_ => P3_ k_ ∧ k_ < w.heap.size) (.slice A3 l3.length c3) l3 t2 t3 q3 w0 _ HB.out HO3.out AA3.out).mono ?_); rintro e w8 ⟨rfl, hs, hb, hk⟩; refine ⟨_, rfl, ?_⟩; have n1_ := Aside0.mk (Kd.R_step HO1.out (fun k_ h1 hlt => hk.2 k_ hlt (fun h3 => HP31.out k_ h3.1 h1.1))); have n2_ := Aside0.mk (Kd.R_step HO2.out (fun k_ h2 hlt => hk.2 k_ hlt (fun h3 => HP32.out k_ h3.1 h2))); have n3_ := Aside0.mk hs; have n4_ := Aside0.mk hb; have n5_ := Aside0.mk (Kept.then_ HK.out hk (fun k_ h_ => .inl (.inr h_.1))); clear HO1 HO2 HO3 HB HK BK hs hb hk hcz_3 hfz_3; have HO1 := n1_; have HO2 := n2_; have HO3 := n3_; have HB := n4_; have HK := n5_; clear n1_ n2_ n3_ n4_ n5_))
  go_ret
  exact ⟨rfl, Kd.R_mono HO1.out (fun k_ h_ => h_.1), HO2.out, Kd.S_mono HO3.out (fun k_ h_ => h_.1), HB.out, HK.out⟩
end Go.Proofs.Ytcjhbmjimjbphaa.QFnExactDescend
