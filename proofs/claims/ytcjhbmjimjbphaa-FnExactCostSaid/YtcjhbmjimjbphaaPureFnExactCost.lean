/- FnExactCost, plainly: the program's Cost and the reference's are the same sum of wrapped products, read in the same order, of every problem that is right; of all others both are -1. No condition. -/
import Derived.Test.YtcjhbmjimjbphaaProblemLibFnExactCost
import Derived.Test.YtcjhbmjimjbphaaCostLibFnExactCost
namespace Go.Proofs.Ytcjhbmjimjbphaa.Pure
open Go.RowKit Go.Proofs.YtcjhbmjimjbphaaW.PrintWords Go.Proofs.Ytcjhbmjimjbphaa.Opn Go.Proofs.Ytcjhbmjimjbphaa.Pl Go.Proofs.Ytcjhbmjimjbphaa.PFnExactCost

theorem FnExactCost : FnExactCost_Pure := by
  intro n g t rows x hn hg ht hr hx
  refine Ev.rounds (r := true) ?_
  unfold laws_FnExactCost.f
  by_cases hxl : (x.length : Int) > 1048576
  · simp only [if_pos hxl]; exact Ev.now _
  simp only [if_neg hxl]
  obtain ⟨r, er, hc⟩ := szProblem_ev n g t rows hg ht hr
  refine Ev_bind r er ?_
  by_cases hrn : r < 0
  · simp only [if_pos hrn]; exact Ev.now _
  simp only [if_neg hrn]
  rcases hc with hc | ⟨_, h1, h2, h3, h4⟩
  · omega
  have hx' : x.length ≤ 1048576 := by omega
  have hs : Small g t (rows.map toI) := ⟨h1, h2, by simpa using h3, toI_small rows h4⟩
  have ep := toProblem_ev n g t rows h1 h2 h3 h4
  refine Ev_bind _ ep ?_
  refine Ev_bind _ (toInts_ev x hx') ?_
  refine Ev_bind _ (specCostTop_ev n g t (rows.map toI) x hs hx') ?_
  refine Ev_bind _ ep ?_
  refine Ev_bind _ (toInts_ev x hx') ?_
  refine Ev_bind _ (implCostTop_ev n g t (rows.map toI) x hs hx') ?_
  simp only [if_true]
  refine Ev_bind _ ep ?_
  refine Ev_bind _ (eqProblem_ev n g t (rows.map toI) h1 h2 (by simpa using h3) (toI_small rows h4)) ?_
  simp only [if_true]
  refine Ev_bind _ (toInts_ev x hx') ?_
  refine Ev_bind _ (eqInts_ev x hx') ?_
  simpa using Ev.now true
end Go.Proofs.Ytcjhbmjimjbphaa.Pure
