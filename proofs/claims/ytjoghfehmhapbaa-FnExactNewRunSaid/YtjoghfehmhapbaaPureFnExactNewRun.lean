/- FnExactNewRun, plainly: both ways tell the same run; copies, marks and comparisons answer as they should. No condition. -/
import Derived.Test.YtjoghfehmhapbaaSuiteRunFnExactNewRun
import Derived.Test.YtjoghfehmhapbaaStatFnExactNewRun
set_option linter.unusedVariables false
set_option linter.unusedSimpArgs false
namespace Go.Proofs.Ytjoghfehmhapbaa.QFnExactNewRun
open Go.RowKit Go.Proofs.YtjoghfehmhapbaaW.PrintWords Go.Proofs.Ytjoghfehmhapbaa.Opn Go.Proofs.Ytjoghfehmhapbaa.Pl

theorem Pure.FnExactNewRun : FnExactNewRun_Pure := by
  intro a d w0 w1
  refine Ev.rounds (g := fun k => laws_FnExactNewRun.f k a d) ?_
  unfold laws_FnExactNewRun.f
  obtain ⟨r, hr, hc⟩ := szSuite_ev a d w0.1 (fun i hi => (wfL_get w0 i hi).1.1) w1.1
  refine Ev_bind _ hr ?_
  by_cases c : r < 0
  · simp only [if_pos c]; exact Ev.now _
  simp only [if_neg c]
  have sm := hc.resolve_left c
  have fit := sm.fits
  have e0 := toSuite_ev sm
  have eS := specNew_ev _ _ fit
  have eI := implNew_ev _ _ fit
  obtain ⟨rf, r3⟩ := newRun_fits fit
  generalize newRun (a.map toT) d = X at eS eI rf r3
  obtain ⟨x0, x1, n, x3, b⟩ := X
  simp only at rf r3
  have eq := eqRun_ev rf n x3 r3
  refine Ev_bind _ e0 (Ev_bind _ eS (Ev_bind _ e0 (Ev_bind _ eI (Ev_bind _ eq ?_))))
  simp only [if_true, bne_self_eq_false]
  refine Ev.step (fun k => by simp only [laws_FnExactNewRun.j0]; rw [if_neg (by simp)]) ?_
  refine Ev_bind _ e0 (Ev_bind _ (eqSuite_ev fit) ?_)
  simp only [if_true]
  obtain ⟨m, y0, y1, em, hm, _⟩ := markSuite_ev fit 1 (by omega) (by omega)
  refine Ev_bind _ em ?_
  simp only [if_neg (show ¬ m < 0 by omega)]
  refine Ev_bind _ eq ?_
  simp only [if_true, bne_self_eq_false]
  refine Ev.step (fun k => by simp only [laws_FnExactNewRun.j1]; rw [if_neg (by simp)]) ?_
  obtain ⟨q, z0, z1, z3, eq1, hq, eh⟩ := markRun_ev rf n x3 r3 1 (by omega) (by omega)
  refine Ev_bind _ eq1 (Ev_bind _ eh ?_)
  simp only [if_neg (show ¬ q < 0 by omega), if_true]
  refine Ev_bind _ e0 (Ev_bind _ eI (Ev_bind _ eq ?_))
  simp only [if_true, bne_self_eq_false]
  refine Ev.step (fun k => by simp only [laws_FnExactNewRun.j2]; rw [if_neg (by simp)]) ?_
  refine Ev_bind _ eh ?_
  simp only [if_neg (show ¬ q < 0 by omega), if_true]
  exact Ev.now _
end Go.Proofs.Ytjoghfehmhapbaa.QFnExactNewRun
