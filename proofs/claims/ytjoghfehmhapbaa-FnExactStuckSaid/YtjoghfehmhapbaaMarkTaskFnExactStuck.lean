/- The law's marks on a suite and a run: rows of rows that are written. Each contract says what the lists hold behind the call; no condition but that the rows are the caller's own, and apart. -/
import Derived.Test.YtjoghfehmhapbaaQFnExactStuckx10
import Derived.Test.YtjoghfehmhapbaaQFnExactStuckx10
import Derived.Test.YtjoghfehmhapbaaSq
set_option linter.unusedVariables false
set_option linter.unusedSimpArgs false
namespace Go.Proofs.Ytjoghfehmhapbaa.QFnExactStuck
open Go.Proofs.Ytjoghfehmhapbaa.Sq Go.RowKit Go.Proofs.YtjoghfehmhapbaaW.PrintWords Go.Proofs.YtjoghfehmhapbaaW.PrintLast Go.Proofs.YtjoghfehmhapbaaW.PrintMore
attribute [local go_sem] max2_int min2_int max_two min_two max_three min_three max_four min_four   -- for this text's walks alone

def laws_markTaskS.l0 : Nat → List S39 → Int → Int → Option (Int × List S39)
  | 0, _, _, _ => none
  | k + 1, x0, x1, x5 => if x5 < (x0.length : Int) then (if 0 ≤ x5 then ((laws_markInt64S.f k (rd_T39 x0 x5).f0 x1).bind fun b => laws_markTaskS.l0 k (x0.set x5.toNat ⟨b.2, b.1, wrap64 (b.1 + 1), wrap64 (wrap64 (b.1 + 1) + 1)⟩) (wrap64 (wrap64 (wrap64 (b.1 + 1) + 1) + 1)) (wrap64 (x5 + 1))) else none) else some (x1, x0)
def laws_markTaskS.f (k : Nat) (l0 : List S39) (a1 : Int) : Option (Int × List S39) := laws_markTaskS.l0 k l0 a1 0

theorem laws_markTaskS.mono_l : ∀ k, (∀ y0 y1 y2, LeO (laws_markTaskS.l0 k y0 y1 y2) (laws_markTaskS.l0 (k + 1) y0 y1 y2))
  | 0 => fun _ _ _ r h => by simp [laws_markTaskS.l0] at h
  | k + 1 => by
    have ih0 := laws_markTaskS.mono_l k
    · intro y0 y1 y2
      unfold laws_markTaskS.l0
      repeat' first
      | (with_reducible exact ih0 _ _ _)
      | (with_reducible exact laws_markInt64S.mono _ _ _)
      | (with_reducible exact LeO.refl _)
      | (with_reducible exact LeO.none _)
      | (with_reducible refine LeO.ite ?_ ?_)
      | (with_reducible refine LeO.bind ?_ (fun _ => ?_))
      | exact ih0 _ _ _
      | exact LeO.none _
theorem laws_markTaskS.mono : ∀ a0 a1 k, LeO (laws_markTaskS.f k a0 a1) (laws_markTaskS.f (k + 1) a0 a1) := fun a0 a1 k => laws_markTaskS.mono_l k a0 a1 0

theorem H_set1 {α : Type} {d : Kd α} {e g n cap : Nat} {W : World} {base : Nat} {ok oki : Nat → Prop} {xs : List α} {i : Int} {c : List Value} (h : Kd.H d e W base ok (.slice (some ⟨g, 0, none⟩) n cap) xs i oki c) (h0 : 0 ≤ i) (h1 : i < n) (j : Nat) (v : Value) (hj : j + 1 ≤ d.sz) (hv : v.oneCell' = true) :
    Kd.H d e (W.setCell ⟨g, i.toNat * d.sz + j, none⟩ v) base ok (.slice (some ⟨g, 0, none⟩) n cap) xs i oki (c.take j ++ [v] ++ c.drop (j + 1)) ∧ W.grownBy (W.setCell ⟨g, i.toNat * d.sz + j, none⟩ v) (some g) :=
  Kd.H_seg h h0 h1 (seg := [v]) (j := j) (by simpa using hj) (fun q hq => by rw [List.mem_singleton.1 hq]; exact hv)
theorem H_cells {α : Type} {d : Kd α} {e g n cap : Nat} {W : World} {base : Nat} {ok oki : Nat → Prop} {xs : List α} {i : Int} {c : List Value} (h : Kd.H d e W base ok (.slice (some ⟨g, 0, none⟩) n cap) xs i oki c) (h0 : 0 ≤ i) (h1 : i < n) :
    (∀ j u, c[j]? = some u → W.cell? ⟨g, i.toNat * d.sz + j, none⟩ = some u) ∧ (∀ j, W.frozen? ⟨g, i.toNat * d.sz + j, none⟩ = false) := by
  obtain ⟨rows, hrl, hraw, hcl, hco, hcc, _⟩ := Kd.H_raw h h0 h1
  obtain ⟨_, _, _, _, hfr⟩ := Kd.R_elem hraw [] i h0 h1
  exact ⟨hcc, hfr⟩
set_option maxHeartbeats 8000000 in
set_option maxRecDepth 100000 in
theorem laws_markTaskS.calls (k : Nat) (P0_ : Nat → Prop) (u9000_ : Value) (l0 : List S39) (a1 : Int) (r1 : Int) (r2 : List S39) (w0 w : World) (hB : Below w0.heap.size w0 w) (ho0 : Kd.S k39 39 w w0.heap.size P0_ u9000_ l0) (h : laws_markTaskS.f k l0 a1 = some (r1, r2)) :
    Calls Try.prog 68 #[u9000_, .int .i64 a1] w fun e w' => e = .returned (.int .i64 r1) ∧ Kd.S k39 39 w' w0.heap.size (fun k_ => P0_ k_) u9000_ r2 ∧ Below w0.heap.size w0 w' ∧ Kept w w' (fun k_ => P0_ k_) := by
  have HO0 := Aside0.mk (show Kd.S k39 39 w w0.heap.size (fun k_ => P0_ k_) u9000_ l0 from ho0)
  have HK := Aside0.mk (Kept.refl w (fun k_ => P0_ k_))
  have HW0 := Aside0.mk hB.size
  have HB := Aside0.mk hB
  clear hB ho0
  have H' := Aside0.mk (show laws_markTaskS.l0 k l0 a1 0 = some (r1, r2) from h)
  clear h
  go_enter Try.func68, Try.ntmps68
  go_wp2
  go_loopg [1, 5] k (fun kq v1 v5 w' => ∃ (x0_1 : List S39) (x1_1 : Int) (x5_1 : Int), v1 = .int .i64 x1_1 ∧ v5 = .int .i64 x5_1 ∧ Aside0 (laws_markTaskS.l0 kq x0_1 x1_1 x5_1 = some (r1, r2)) ∧ Aside0 (kq ≤ k) ∧ Aside0 (Kd.S k39 39 w' w0.heap.size (fun k_ => P0_ k_) u9000_ x0_1) ∧ Aside0 (Kept w w' (fun k_ => P0_ k_)) ∧ Aside0 (Below w0.heap.size w0 w'))
  case atStart => exact ⟨l0, a1, 0, rfl, rfl, H', ⟨Nat.le_refl _⟩, HO0, HK, HB⟩
  case round =>
    clear H' HO0 HK HB
    obtain ⟨xs, x1, i, rfl, rfl, HA, HK1, HO, HK, HB⟩ := hrel
    obtain ⟨Ao, co, eo⟩ := Kd.S_slice HO.out
    subst eo
    cases gk with
    | zero => exact absurd HA.out (by simp [laws_markTaskS.l0])
    | succ k1 =>
      have H := HA.out
      clear HA
      simp only [laws_markTaskS.l0] at H
      by_cases c3 : i < (xs.length : Int)
      · rw [if_pos c3] at H
        have c3b0 : decide (i < (xs.length : Int)) = true := decide_eq_true c3
        obtain ⟨c4, H⟩ := ifS_ H
        have c4b0 : decide (0 ≤ i) = true := decide_eq_true c4
        replace H := Option.bind_eq_some_iff.mp H
        obtain ⟨⟨m1, q⟩, A0, H⟩ := H
        have A := Aside0.mk A0
        clear A0
        have H' := Aside0.mk H
        clear H
        obtain ⟨go5, co5, eo5, gb5, gl5, cl5, HG5⟩ := Kd.S_form HO.out (by omega)
        obtain ⟨rfl, rfl⟩ : Ao = some ⟨go5, 0, none⟩ ∧ co = co5 := by injection eo5 with e1 e2 e3; exact ⟨e1, e3⟩
        clear eo5
        have GB5 := Aside0.mk gb5
        have GL5 := Aside0.mk gl5
        have GG5 := Aside0.mk HG5
        clear gb5 gl5 HG5
        obtain ⟨oki, c, hcl, hM, hcc, hfr, hoki, hH⟩ := Kd.S_elem HO.out z39 i c4 c3
        obtain ⟨v0, rfl, hv0⟩ := k39_openM hM
        obtain ⟨Av, cv, ev⟩ := Kd.R_slice hv0
        subst ev
        have hx0 : wr.cell? ⟨go5, i.toNat * 4, none⟩ = some (.slice Av (rd_T39 xs i).f0.length cv) := hcc 0 _ rfl
        have HRv := Aside0.mk hv0
        have HH := Aside0.mk hH
        have HOKI := Aside0.mk hoki
        clear hcl hM hcc hoki hH hv0 hfr
        have HIO : Aside0 (0 ≤ i) := ⟨c4⟩
        have HIL : Aside0 (i < (xs.length : Int)) := ⟨c3⟩
        replace c3 := eq_true c3
        replace c4 := eq_true c4
        go_wp2_with (first | ((with_reducible refine gate_callee (f := 38) rfl ?_); refine gL_ (some 18) Try.func38 #[.slice Av (rd_T39 xs i).f0.length cv, .int .i64 x1] ?_; (with_reducible refine (laws_markInt64S.calls k1 (fun k_ => oki k_ ∧ some k_ = (.slice Av (rd_T39 xs i).f0.length cv : Value).ownBlock) (.slice Av (rd_T39 xs i).f0.length cv) (rd_T39 xs i).f0 x1 m1 q w0 _ HB.out (Kd.R_mono (Kd.R_tight2 rfl HRv.out) (fun k_ hk => ⟨hk.2, hk.1⟩)) A.out).mono ?_); rintro e w1 ⟨rfl, hy0, hb, hkp⟩; refine ⟨_, rfl, ?_⟩; have HY := Aside0.mk hy0; have HKP := Aside0.mk hkp; have HB1 := Aside0.mk hb; clear hy0 hkp hb hx0; have HH1 := Aside0.mk (Kd.H_step HH.out (fun k_ hk hn hlt => HKP.out.2 k_ hlt (fun hp => hn hp.1))); have HR1 := Aside0.mk (Kd.R_mono (Kd.R_tight2 rfl HY.out) (fun k_ hk => HRv.out.1 k_ hk.1.symm)); have HK1_ := Aside0.mk (Kept.then_ HK.out HKP.out (fun k_ hk => .inl (HOKI.out k_ hk.1).1)); obtain ⟨hce_, hfe_⟩ := H_cells HH1.out HIO.out HIL.out; have hx1_ : w1.cell? ⟨go5, i.toNat * 4 + 1, none⟩ = some (.int .i64 (rd_T39 xs i).f1) := hce_ 1 _ rfl; have hf1_ : w1.frozen? ⟨go5, i.toNat * 4 + 1, none⟩ = false := hfe_ 1; clear hce_ hfe_; clear HH HRv HY HKP HK HB) | ((with_reducible refine gate_store (t := 2) (p := 23) rfl ?_); refine store_event (t := 2) (p := 23) (v := ?vo_w2) (w1 := (w1.setCell ⟨go5, i.toNat * 4 + 1, none⟩ (.int .i64 m1))) ?hg ?ho ?hn ?hr ?_; (case ho => rfl); (case hg => rfl); (case hn => rfl); (case hr => first | (go_simp; done) | (go_simp; rfl)); intro w2 hw2; have HP_ := H_set1 HH1.out HIO.out HIL.out 1 (.int .i64 m1) (by decide) rfl; have hg_ : w1.grownBy w2 (some go5) := (by rw [hw2]; exact HP_.2); have HH2 := Aside0.mk (show Kd.H k39 39 w2 w0.heap.size (fun k_ => P0_ k_) (.slice (some ⟨go5, 0, none⟩) xs.length co) xs i oki [(.slice Av (rd_T39 xs i).f0.length cv), (.int .i64 m1), (.int .i64 (rd_T39 xs i).f2), (.int .i64 (rd_T39 xs i).f3)] from (by rw [hw2]; exact HP_.1)); have HR2 := Aside0.mk (show Kd.R (Kd.int .i64) 2 w2 w0.heap.size (fun k_ => oki k_) (.slice Av (rd_T39 xs i).f0.length cv) q from (by rw [hw2]; exact Kd.R_far HR1.out (fun k_ hk => (HOKI.out k_ hk).2) _)); have HB2 := Aside0.mk (by rw [hw2]; exact below_set HB1.out GB5.out : Below w0.heap.size w0 w2); have HK2_ := Aside0.mk (Kept.of_grown (S := (fun k_ => P0_ k_)) hg_ HK1_.out (fun k_ e_ => .inl ((Kd.S_R HO.out).1 k_ e_))); obtain ⟨hce_, hfe_⟩ := H_cells HH2.out HIO.out HIL.out; have hx2_ : w2.cell? ⟨go5, i.toNat * 4 + 2, none⟩ = some (.int .i64 (rd_T39 xs i).f2) := hce_ 2 _ rfl; have hf2_ : w2.frozen? ⟨go5, i.toNat * 4 + 2, none⟩ = false := hfe_ 2; clear hce_ hfe_; clear HP_ hg_ hw2 HH1 HR1 HB1 HK1_ hx1_ hf1_) | ((with_reducible refine gate_store (t := 2) (p := 30) rfl ?_); refine store_event (t := 2) (p := 30) (v := ?vo_w3) (w1 := (w2.setCell ⟨go5, i.toNat * 4 + 2, none⟩ (.int .i64 (wrap64 (m1 + 1))))) ?hg ?ho ?hn ?hr ?_; (case ho => rfl); (case hg => rfl); (case hn => rfl); (case hr => first | (go_simp; done) | (go_simp; rfl)); intro w3 hw3; have HP_ := H_set1 HH2.out HIO.out HIL.out 2 (.int .i64 (wrap64 (m1 + 1))) (by decide) rfl; have hg_ : w2.grownBy w3 (some go5) := (by rw [hw3]; exact HP_.2); have HH3 := Aside0.mk (show Kd.H k39 39 w3 w0.heap.size (fun k_ => P0_ k_) (.slice (some ⟨go5, 0, none⟩) xs.length co) xs i oki [(.slice Av (rd_T39 xs i).f0.length cv), (.int .i64 m1), (.int .i64 (wrap64 (m1 + 1))), (.int .i64 (rd_T39 xs i).f3)] from (by rw [hw3]; exact HP_.1)); have HR3 := Aside0.mk (show Kd.R (Kd.int .i64) 2 w3 w0.heap.size (fun k_ => oki k_) (.slice Av (rd_T39 xs i).f0.length cv) q from (by rw [hw3]; exact Kd.R_far HR2.out (fun k_ hk => (HOKI.out k_ hk).2) _)); have HB3 := Aside0.mk (by rw [hw3]; exact below_set HB2.out GB5.out : Below w0.heap.size w0 w3); have HK3_ := Aside0.mk (Kept.of_grown (S := (fun k_ => P0_ k_)) hg_ HK2_.out (fun k_ e_ => .inl ((Kd.S_R HO.out).1 k_ e_))); obtain ⟨hce_, hfe_⟩ := H_cells HH3.out HIO.out HIL.out; have hx3_ : w3.cell? ⟨go5, i.toNat * 4 + 3, none⟩ = some (.int .i64 (rd_T39 xs i).f3) := hce_ 3 _ rfl; have hf3_ : w3.frozen? ⟨go5, i.toNat * 4 + 3, none⟩ = false := hfe_ 3; clear hce_ hfe_; clear HP_ hg_ hw3 HH2 HR2 HB2 HK2_ hx2_ hf2_) | ((with_reducible refine gate_store (t := 2) (p := 37) rfl ?_); refine store_event (t := 2) (p := 37) (v := ?vo_w4) (w1 := (w3.setCell ⟨go5, i.toNat * 4 + 3, none⟩ (.int .i64 (wrap64 (wrap64 (m1 + 1) + 1))))) ?hg ?ho ?hn ?hr ?_; (case ho => rfl); (case hg => rfl); (case hn => rfl); (case hr => first | (go_simp; done) | (go_simp; rfl)); intro w4 hw4; have HP_ := H_set1 HH3.out HIO.out HIL.out 3 (.int .i64 (wrap64 (wrap64 (m1 + 1) + 1))) (by decide) rfl; have hg_ : w3.grownBy w4 (some go5) := (by rw [hw4]; exact HP_.2); have HH4 := Aside0.mk (show Kd.H k39 39 w4 w0.heap.size (fun k_ => P0_ k_) (.slice (some ⟨go5, 0, none⟩) xs.length co) xs i oki [(.slice Av (rd_T39 xs i).f0.length cv), (.int .i64 m1), (.int .i64 (wrap64 (m1 + 1))), (.int .i64 (wrap64 (wrap64 (m1 + 1) + 1)))] from (by rw [hw4]; exact HP_.1)); have HR4 := Aside0.mk (show Kd.R (Kd.int .i64) 2 w4 w0.heap.size (fun k_ => oki k_) (.slice Av (rd_T39 xs i).f0.length cv) q from (by rw [hw4]; exact Kd.R_far HR3.out (fun k_ hk => (HOKI.out k_ hk).2) _)); have HB4 := Aside0.mk (by rw [hw4]; exact below_set HB3.out GB5.out : Below w0.heap.size w0 w4); have HK4_ := Aside0.mk (Kept.of_grown (S := (fun k_ => P0_ k_)) hg_ HK3_.out (fun k_ e_ => .inl ((Kd.S_R HO.out).1 k_ e_))); have HS4 := Aside0.mk (Kd.H_back HH4.out (x' := ⟨q, m1, wrap64 (m1 + 1), wrap64 (wrap64 (m1 + 1) + 1)⟩) (k39_mkM w4 w0.heap.size oki ⟨q, m1, wrap64 (m1 + 1), wrap64 (wrap64 (m1 + 1) + 1)⟩ HR4.out) (fun _ hk => hk)); have HK4 := Aside0.mk (Kept.mono HK4_.out (fun k_ hk => hk)); clear HP_ hg_ hw4 HH3 HR3 HB3 HK3_ hx3_ hf3_))
        go_roundg k1
        case measure => have := HK1.out; omega
        case rel => exact ⟨xs.set i.toNat ⟨q, m1, wrap64 (m1 + 1), wrap64 (wrap64 (m1 + 1) + 1)⟩, wrap64 (wrap64 (wrap64 (m1 + 1) + 1) + 1), wrap64 (i + 1), rfl, rfl, H', ⟨by have := HK1.out; omega⟩, HS4, HK4, HB4⟩
      · rw [if_neg c3] at H
        have c3b0 : decide (i < (xs.length : Int)) = false := decide_eq_false c3
        clear c3
        simp only [Option.some.injEq, Prod.mk.injEq] at H
        obtain ⟨rfl, rfl⟩ := H
        go_wp2
        go_ret
        exact ⟨rfl, HO.out, HB.out, HK.out⟩
end Go.Proofs.Ytjoghfehmhapbaa.QFnExactStuck
