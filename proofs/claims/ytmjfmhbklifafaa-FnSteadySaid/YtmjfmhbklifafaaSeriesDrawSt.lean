/- A drawn series: some list of numbers, told without a fault, whatever the bytes. -/
import Derived.Test.YtmjfmhbklifafaaRdLibSt
set_option linter.unusedVariables false
set_option linter.unusedSimpArgs false
namespace Go.Proofs.Ytmjfmhbklifafaa.QFnSteady
open Go.RowKit Go.Proofs.YtmjfmhbklifafaaW.PrintWords Go.Proofs.Ytmjfmhbklifafaa.Opn Go.Proofs.Ytmjfmhbklifafaa.Pl

theorem series_ev {b : List Int} {p : Int} (h : RdOk b p) (most : Int) (hm : 1 ≤ most) (hm2 : most ≤ 1000) : ∃ l p', Ev (fun k => spec_l1Rd_series.f k b p most) (l, p') ∧ 1 ≤ l.length ∧ l.length ≤ 1000 ∧ RdOk b p' := by
  unfold spec_l1Rd_series.f
  obtain ⟨n, p1, e1, n0, n1, h1⟩ := rdSize h 3 most (by omega) hm (by omega)
  obtain ⟨lev, p2, e2, _, _, h2⟩ := rdBelow h1 100 (by omega)
  simp only [e1, e2, Option.bind_some]
  have key : ∀ (d : Nat) (i : Nat) (x6 : List Int) (x7 p : Int), (i : Int) + (d : Int) = n → x6.length = i → RdOk b p → ∃ l p', Ev (fun k => spec_l1Rd_series.l0 k n x6 x7 (i : Int) b p) (l, p') ∧ (l.length : Int) = n ∧ RdOk b p' := by
    intro d
    induction d with
    | zero =>
      intro i x6 x7 p hi hl hp
      refine ⟨x6, p, Ev.step (f := fun _ => some (x6, p)) (fun k => ?_) (Ev.now _), by omega, hp⟩
      simp only [spec_l1Rd_series.l0]
      rw [if_neg (by omega)]
    | succ d ih =>
      intro i x6 x7 p hi hl hp
      obtain ⟨v, q1, f1, g1⟩ := rdOnce hp 14 (by omega)
      cases v with
      | true =>
        obtain ⟨u, q2, f2, _, _, g2⟩ := rdBelow g1 60 (by omega)
        obtain ⟨t, q3, f3, _, _, g3⟩ := rdBelow g2 12 (by omega)
        obtain ⟨l, p', e, hl', hp'⟩ := ih (i + 1) (x6 ++ [wrap64 (wrap64 (wrap64 (x7 + u) - 30) + t)]) (wrap64 (wrap64 (x7 + u) - 30)) q3 (by omega) (by simp; omega) g3
        refine ⟨l, p', Ev.step (fun k => ?_) e, hl', hp'⟩
        simp only [spec_l1Rd_series.l0]
        rw [if_pos (by omega), f1]
        simp only [Option.bind_some, if_true, f2, f3]
        rw [if_pos (by omega), w64 (n := (i : Int) + 1) (by omega) (by omega)]
        rfl
      | false =>
        obtain ⟨t, q3, f3, _, _, g3⟩ := rdBelow g1 12 (by omega)
        obtain ⟨l, p', e, hl', hp'⟩ := ih (i + 1) (x6 ++ [wrap64 (x7 + t)]) x7 q3 (by omega) (by simp; omega) g3
        refine ⟨l, p', Ev.step (fun k => ?_) e, hl', hp'⟩
        simp only [spec_l1Rd_series.l0]
        rw [if_pos (by omega), f1]
        simp only [Option.bind_some, Bool.false_eq_true, if_false, f3]
        rw [if_pos (by omega), w64 (n := (i : Int) + 1) (by omega) (by omega)]
        rfl
  obtain ⟨l, p', e, hl, hp⟩ := key n.toNat 0 [] lev p2 (by omega) rfl h2
  exact ⟨l, p', e, by omega, by omega, hp⟩

theorem draw19_ev {b : List Int} {p : Int} (h : RdOk b p) : ∃ l p', Ev (fun k => spec_l19Draw.f k b p) (l, p') ∧ l.length ≤ 1000 ∧ RdOk b p' := by
  unfold spec_l19Draw.f
  obtain ⟨l, p1, e1, l0, l1, h1⟩ := series_ev h 50 (by omega) (by omega)
  obtain ⟨w, p2, e2, w0, w1, h2⟩ := rdBelow h1 20 (by omega)
  by_cases c0 : w = 0
  · obtain ⟨v, p3, e3, v0, v1, h3⟩ := rdBelow h2 4 (by omega)
    refine ⟨l.set 0 (rd [100000, 100001, (-100000), (-100001)] v), p3, Ev_bind _ e1 ?_, by rw [List.length_set]; exact l1, h3⟩
    simp only [e2, Option.bind_some, if_pos c0, e3]
    simp only [if_pos (show (0 : Int) ≤ v by omega), if_pos (show v < (([100000, 100001, (-100000), (-100001)] : List Int).length : Int) by simp; omega), if_pos (show (0 : Int) < (l.length : Int) by omega)]
    exact Ev.now _
  by_cases c1 : w = 1
  · refine ⟨l.take 0, p2, Ev_bind _ e1 ?_, by simp, h2⟩
    simp only [e2, Option.bind_some, if_neg c0, if_pos c1, if_pos (show (0 : Int) ≤ (l.length : Int) by omega)]
    exact Ev.now _
  by_cases c2 : w = 2
  · obtain ⟨v, p3, e3, v0, v1, h3⟩ := rdBelow h2 2 (by omega)
    refine ⟨List.replicate (500 + v).toNat 0, p3, Ev_bind _ e1 ?_, by simp; omega, h3⟩
    simp only [e2, Option.bind_some, if_neg c0, if_neg c1, if_pos c2, e3]
    simp only [w64 (n := 500 + v) (by omega) (by omega), if_pos (show (0 : Int) ≤ 500 + v by omega), if_pos (show (500 + v).toNat ≤ 35184372088832 by omega)]
    exact Ev.now _
  by_cases c3 : w = 3
  · refine ⟨l.take 1, p2, Ev_bind _ e1 ?_, by simp; omega, h2⟩
    simp only [e2, Option.bind_some, if_neg c0, if_neg c1, if_neg c2, if_pos c3, if_pos (show (1 : Int) ≤ (l.length : Int) by omega)]
    exact Ev.now _
  · refine ⟨l, p2, Ev_bind _ e1 ?_, l1, h2⟩
    simp only [e2, Option.bind_some, if_neg c0, if_neg c1, if_neg c2, if_neg c3]
    exact Ev.now _
theorem rdOpen (b : List Int) (hl : b.length ≤ 1048576) (hb : ∀ x ∈ b, WfI .u8 x) : RdOk b 0 := by
  refine ⟨hl, fun i hi => ?_, by omega, by omega⟩
  rw [rd_lt b i hi]
  exact wfU8_range (hb _ (List.getElem_mem hi))
end Go.Proofs.Ytmjfmhbklifafaa.QFnSteady
