/- FnExactReport, plainly: both ways tell the same run and the same answer; copies, marks and comparisons answer as they should. No condition. -/
import Derived.Test.YtjoghfehmhapbaaRunLibFnExactReport
import Derived.Test.YtjoghfehmhapbaaStatFnExactReport
set_option linter.unusedVariables false
set_option linter.unusedSimpArgs false
namespace Go.Proofs.Ytjoghfehmhapbaa.QFnExactReport
open Go.RowKit Go.Proofs.YtjoghfehmhapbaaW.PrintWords Go.Proofs.YtjoghfehmhapbaaW.PrintMore Go.Proofs.Ytjoghfehmhapbaa.Opn Go.Proofs.Ytjoghfehmhapbaa.Pl

def repHow (l0 : List S39) (l3 : List S43) (a : Int) (ok : Bool) : Int := if ok = true then 2 else if (rd_T43 l3 (a - 1)).f1 = (rd_T39 l0 (a - 1)).f3 then 3 else 0
noncomputable def repRun (l0 : List S39) (l1 : List Int) (n : Int) (l3 : List S43) (a : Int) (ok : Bool) : List S39 × List Int × Int × List S43 × Bool :=
  if dec_ (runP l0 l1 n l3) = true then (if (1 ≤ a ∧ a ≤ (l3.length : Int)) ∧ (rd_T43 l3 (a - 1)).f0 = 1 then (l0, l1, n, l3.set (a - 1).toNat ⟨repHow l0 l3 a ok, (rd_T43 l3 (a - 1)).f1⟩, true) else (l0, l1, n, l3, false)) else ([], [], 0, [], false)
theorem specRep_ev (l0 : List S39) (l1 : List Int) (n : Int) (l3 : List S43) (a : Int) (ok : Bool) (h : FitsR l0 l1 l3) : Ev (fun k => spec_Report.f k l0 l1 n l3 a ok) (repRun l0 l1 n l3 a ok) := by
  have bad : Ev (fun k => spec_Report.j0 k a ok true l0 l1 n l3) (l0, l1, n, l3, false) := Ev.step (f := fun _ => some (l0, l1, n, l3, false)) (fun k => by simp only [spec_Report.j0, if_true]) (Ev.now _)
  have hn3 := h.n3
  unfold spec_Report.f repRun
  refine Ev_bind _ (specOkR_ev l0 l1 n l3 h) ?_
  by_cases c : runP l0 l1 n l3
  · rw [dec_true c]
    simp only [if_true]
    refine Ev_bind _ (specCopyR_ev l0 l1 n l3 h) ?_
    simp only [specIn, Option.bind_some]
    by_cases c1 : 1 ≤ a ∧ a ≤ (l3.length : Int)
    · have ew : wrap64 (a - 1) = a - 1 := w64 (by omega) (by omega)
      simp only [decide_eq_true c1, if_true, ew, if_pos (show 0 ≤ a - 1 by omega), if_pos (show a - 1 < (l3.length : Int) by omega)]
      by_cases c2 : (rd_T43 l3 (a - 1)).f0 = 1
      · rw [if_pos ⟨c1, c2⟩, show ((rd_T43 l3 (a - 1)).f0 != 1) = false from bne_eq_false_iff_eq.mpr c2]
        refine Ev.step (f := fun _ => some (l0, l1, n, l3.set (a - 1).toNat ⟨repHow l0 l3 a ok, (rd_T43 l3 (a - 1)).f1⟩, true)) (fun k => ?_) (Ev.now _)
        have hl := c.2.2.1
        simp only [spec_Report.j0, Bool.false_eq_true, if_false, ew, if_pos (show 0 ≤ a - 1 by omega), if_pos (show a - 1 < (l3.length : Int) by omega), if_pos (show a - 1 < (l0.length : Int) by omega), repHow]
        by_cases c3 : ok = true
        · rw [if_pos c3, if_pos c3]
        · rw [if_neg c3, if_neg c3]
          by_cases c4 : (rd_T43 l3 (a - 1)).f1 = (rd_T39 l0 (a - 1)).f3
          · rw [if_pos c4, if_pos c4]
          · rw [if_neg c4, if_neg c4]
      · rw [if_neg (fun x => c2 x.2), show ((rd_T43 l3 (a - 1)).f0 != 1) = true from bne_iff_ne.mpr c2]
        exact bad
    · rw [if_neg (fun x => c1 x.1)]
      simp only [decide_eq_false c1, Bool.false_eq_true, if_false]
      exact bad
  · rw [dec_false c]
    simp only [Bool.false_eq_true, if_false]
    exact Ev.now _
theorem implRep_ev (l0 : List S39) (l1 : List Int) (n : Int) (l3 : List S43) (a : Int) (ok : Bool) (h : FitsR l0 l1 l3) : Ev (fun k => impl_Report.f k l0 l1 n l3 a ok) (repRun l0 l1 n l3 a ok) := by
  have bad : Ev (fun k => impl_Report.j0 k a ok true l0 l1 n l3 l0 l1 n l3) (l0, l1, n, l3, false) := Ev.step (f := fun _ => some (l0, l1, n, l3, false)) (fun k => by simp only [impl_Report.j0, if_true]) (Ev.now _)
  have hn3 := h.n3
  unfold impl_Report.f repRun
  refine Ev_bind _ (implOkR_ev l0 l1 n l3 h) ?_
  by_cases c : runP l0 l1 n l3
  · rw [dec_true c]
    simp only [if_true]
    refine Ev_bind _ (implCopyR_ev l0 l1 n l3 h) ?_
    simp only [implIn, Option.bind_some]
    by_cases c1 : 1 ≤ a ∧ a ≤ (l3.length : Int)
    · have ew : wrap64 (a - 1) = a - 1 := w64 (by omega) (by omega)
      simp only [decide_eq_true c1, if_true, ew, if_pos (show 0 ≤ a - 1 by omega), if_pos (show a - 1 < (l3.length : Int) by omega)]
      by_cases c2 : (rd_T43 l3 (a - 1)).f0 = 1
      · rw [if_pos ⟨c1, c2⟩, show ((rd_T43 l3 (a - 1)).f0 != 1) = false from bne_eq_false_iff_eq.mpr c2]
        refine Ev.step (f := fun _ => some (l0, l1, n, l3.set (a - 1).toNat ⟨repHow l0 l3 a ok, (rd_T43 l3 (a - 1)).f1⟩, true)) (fun k => ?_) (Ev.now _)
        have hl := c.2.2.1
        simp only [impl_Report.j0, Bool.false_eq_true, if_false, ew, if_pos (show 0 ≤ a - 1 by omega), if_pos (show a - 1 < (l3.length : Int) by omega), if_pos (show a - 1 < (l0.length : Int) by omega), repHow]
        by_cases c3 : ok = true
        · rw [if_pos c3, if_pos c3]
        · rw [if_neg c3, if_neg c3]
          by_cases c4 : (rd_T43 l3 (a - 1)).f1 = (rd_T39 l0 (a - 1)).f3
          · rw [if_pos c4, if_pos c4]
          · rw [if_neg c4, if_neg c4]
      · rw [if_neg (fun x => c2 x.2), show ((rd_T43 l3 (a - 1)).f0 != 1) = true from bne_iff_ne.mpr c2]
        exact bad
    · rw [if_neg (fun x => c1 x.1)]
      simp only [decide_eq_false c1, Bool.false_eq_true, if_false]
      exact bad
  · rw [dec_false c]
    simp only [Bool.false_eq_true, if_false]
    exact Ev.now _
theorem rep_fits {l0 : List S39} {l1 : List Int} {l3 : List S43} (n a : Int) (ok : Bool) (h : FitsR l0 l1 l3) : FitsR (repRun l0 l1 n l3 a ok).1 (repRun l0 l1 n l3 a ok).2.1 (repRun l0 l1 n l3 a ok).2.2.2.1 := by
  unfold repRun
  split
  · split
    · exact ⟨h.s, by simpa using h.n3⟩
    · exact ⟨h.s, h.n3⟩
  · exact fits_none

theorem Pure.FnExactReport : FnExactReport_Pure := by
  intro a d n j t ok w0 w1 w2 w3 w4 w5
  refine Ev.rounds (g := fun k => laws_FnExactReport.f k a d n j t ok) ?_
  unfold laws_FnExactReport.f
  obtain ⟨r, hr, hc⟩ := szRun_ev a d n j w0.1 (fun i hi => (wfL_get w0 i hi).1.1) w1.1 w3.1
  refine Ev_bind _ hr ?_
  by_cases c : r < 0
  · simp only [if_pos c]; exact Ev.now _
  simp only [if_neg c]
  have sm := hc.resolve_left c
  have fit := sm.fits
  have e0 := toRun_ev n sm
  have eS := specRep_ev _ _ n _ t ok fit
  have eI := implRep_ev _ _ n _ t ok fit
  have rf := rep_fits n t ok fit
  generalize repRun (a.map toT) d n (j.map toJ) t ok = X at eS eI rf
  obtain ⟨x0, x1, m, x3, x4⟩ := X
  simp only at rf
  have eq := eqRun_ev rf.s m x3 rf.n3
  have eq0 := eqRun_ev fit.s n _ fit.n3
  refine Ev_bind _ e0 (Ev_bind _ eS (Ev_bind _ e0 (Ev_bind _ eI (Ev_bind _ eq ?_))))
  simp only [if_true, bne_self_eq_false]
  refine Ev.step (fun k => by simp only [laws_FnExactReport.j0]; rw [if_neg (by simp)]) ?_
  refine Ev_bind _ e0 (Ev_bind _ eq0 ?_)
  simp only [if_true]
  obtain ⟨q, y0, y1, y3, em, hq, _⟩ := markRun_ev fit.s n _ fit.n3 1 (by omega) (by omega)
  refine Ev_bind _ em ?_
  simp only [if_neg (show ¬ q < 0 by omega)]
  refine Ev_bind _ eq ?_
  simp only [if_true, bne_self_eq_false]
  refine Ev.step (fun k => by simp only [laws_FnExactReport.j1]; rw [if_neg (by simp)]) ?_
  obtain ⟨p, z0, z1, z3, eq1, hp, eh⟩ := markRun_ev rf.s m x3 rf.n3 1 (by omega) (by omega)
  refine Ev_bind _ eq1 (Ev_bind _ eh ?_)
  simp only [if_neg (show ¬ p < 0 by omega), if_true]
  refine Ev_bind _ e0 (Ev_bind _ eI (Ev_bind _ eq ?_))
  simp only [if_true, bne_self_eq_false]
  refine Ev.step (fun k => by simp only [laws_FnExactReport.j2]; rw [if_neg (by simp)]) ?_
  refine Ev_bind _ eh ?_
  simp only [if_neg (show ¬ p < 0 by omega), if_true]
  exact Ev.now _
end Go.Proofs.Ytjoghfehmhapbaa.QFnExactReport
