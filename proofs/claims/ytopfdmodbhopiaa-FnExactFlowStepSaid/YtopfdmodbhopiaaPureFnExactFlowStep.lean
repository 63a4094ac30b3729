/- FnExactFlowStep, plain: both FlowStep functions compute one plain function; copies, marks and comparisons of equal lists answer as they should. No condition. -/
import Derived.Test.YtopfdmodbhopiaaFlowLibFnExactFlowStep
import Derived.Test.YtopfdmodbhopiaaStatFnExactFlowStep
set_option linter.unusedVariables false
set_option linter.unusedSimpArgs false
namespace Go.Proofs.Ytopfdmodbhopiaa.QFnExactFlowStep
open Go.RowKit Go.Proofs.YtopfdmodbhopiaaW.PrintWords Go.Proofs.Ytopfdmodbhopiaa.Opn Go.Proofs.Ytopfdmodbhopiaa.Pl Go.Proofs.Ytopfdmodbhopiaa.Wm

theorem flow_len (next was : List Int) : ∀ m i W o, (flowR next was m i W o).1.length = W.length := by
  intro m
  induction m with
  | zero => intro i W o; rfl
  | succ m ih =>
    intro i W o
    simp only [flowR]
    split
    · rw [ih]; simp
    · rw [ih]; simp

theorem FS_len (next w : List Int) (o r : Int) (rain : List Int) (hs : w.length ≤ 1048576) : (FS next w o r rain).1.length ≤ 1048576 := by
  unfold FS
  split
  · split
    · rename_i h _
      unfold inOk at h
      simp only [Bool.and_eq_true, decide_eq_true_eq] at h
      show (flowR _ _ _ _ _ _).1.length ≤ _
      rw [flow_len, add_len w rain (by omega)]; exact hs
    · simp [bad]
  · simp [bad]

theorem toBook_ev (w : List Int) (o r : Int) (hw : w.length ≤ 1048576) : Ev (fun k => laws_toBook.f k w o r) (w, o, r) := by
  unfold laws_toBook.f
  exact Ev_bind _ (toInts_ev w hw) (Ev.now _)
theorem eqBook_ev (w : List Int) (o r : Int) (hw : w.length ≤ 1048576) : Ev (fun k => laws_eqBook.f k w o r w o r) true := by
  unfold laws_eqBook.f
  refine Ev_bind _ (eqInts_ev w hw) ?_
  simpa using Ev.now true
theorem markBook_ev (w : List Int) (o r : Int) (hw : w.length ≤ 1048576) (a : Int) (h0 : 0 ≤ a) (h1 : a ≤ 1000000000000) : Ev (fun k => laws_markBook.f k w o r a) (a + (w.length : Int), rng a w.length) := by
  unfold laws_markBook.f
  exact Ev_bind _ (mark_ev w hw a h0 h1) (Ev.now _)
theorem heldBook_ev (n : Nat) (o r : Int) (hw : n ≤ 1048576) (a : Int) (h0 : 0 ≤ a) (h1 : a ≤ 1000000000000) : Ev (fun k => laws_heldBook.f k (rng a n) o r a) (a + (n : Int)) := by
  unfold laws_heldBook.f
  refine Ev_bind _ (held_ev n hw a h0 h1) ?_
  simp only [if_neg (show ¬ a + (n : Int) < 0 by omega)]
  exact Ev.now _

theorem Pure.FnExactFlowStep : FnExactFlowStep_Pure := by
  intro l0 l1_0 a1_1 a1_2 l2 w0 w1 w2 w3 w4
  refine Ev.rounds (g := fun k => laws_FnExactFlowStep.f k l0 l1_0 a1_1 a1_2 l2) ?_
  unfold laws_FnExactFlowStep.f
  by_cases g0 : (l0.length : Int) > 1048576
  · simp only [if_pos g0]; exact Ev.now _
  simp only [if_neg g0]
  by_cases g2 : (l2.length : Int) > 1048576
  · simp only [if_pos g2]; exact Ev.now _
  simp only [if_neg g2]
  have hl1 : l1_0.length ≤ 9223372036854775807 := by have := w1.1; omega
  obtain ⟨t, ht, hs⟩ := szInt l1_0 hl1 1048576 (by omega) (by omega)
  have hsz : laws_szBook.f l1_0 a1_1 a1_2 1048576 = some (if t < 0 then -1 else t) := by
    unfold laws_szBook.f
    rw [ht, Option.bind_some]
    split <;> rfl
  simp only [hsz, Option.bind_some]
  by_cases gt : t < 0
  · simp only [if_pos gt, if_pos (show (-1 : Int) < 0 by decide)]; exact Ev.now _
  simp only [if_neg gt]
  have h0 : l0.length ≤ 1048576 := by omega
  have h1 : l1_0.length ≤ 1048576 := by omega
  have h2 : l2.length ≤ 1048576 := by omega
  have e0 := toInts_ev l0 h0
  have e1 := toBook_ev l1_0 a1_1 a1_2 h1
  have e2 := toInts_ev l2 h2
  refine Ev_bind _ e0 (Ev_bind _ e1 (Ev_bind _ e2 (Ev_bind _ (specStep_ev l0 l1_0 a1_1 a1_2 l2 h0 h1 h2) (Ev_bind _ e0 (Ev_bind _ e1 (Ev_bind _ e2 (Ev_bind _ (implStep_ev l0 l1_0 a1_1 a1_2 l2 h0 h1 h2) ?_)))))))
  have hR := FS_len l0 l1_0 a1_1 a1_2 l2 h1
  have eI := implStep_ev l0 l1_0 a1_1 a1_2 l2 h0 h1 h2
  generalize FS l0 l1_0 a1_1 a1_2 l2 = X at hR eI ⊢
  obtain ⟨R, c, d, b⟩ := X
  simp only at hR ⊢
  have eq := eqBook_ev R c d hR
  refine Ev_bind _ eq ?_
  simp only [if_true]
  refine Ev.step (f := fun k => (laws_toInt64S.f k l0).bind fun t243 => ((laws_eqInt64S.f k l0 t243).bind fun t246 => (if t246 = true then ((laws_toBook.f k l1_0 a1_1 a1_2).bind fun bt247 => ((laws_eqBook.f k l1_0 a1_1 a1_2 bt247.1 bt247.2.1 bt247.2.2).bind fun t252 => (if t252 = true then ((laws_toInt64S.f k l2).bind fun t253 => ((laws_eqInt64S.f k l2 t253).bind fun t256 => (if t256 = true then ((laws_markInt64S.f k l0 1).bind fun bt257 => ((laws_markBook.f k l1_0 a1_1 a1_2 bt257.1).bind fun bt259 => ((laws_markInt64S.f k l2 bt259.1).bind fun bt261 => (if bt261.1 < 0 then (laws_FnExactFlowStep.j1 k l0 l2 b true l1_0 a1_1 a1_2 R c d R c d) else ((laws_eqBook.f k R c d R c d).bind fun t263 => (if t263 = true then (laws_FnExactFlowStep.j1 k l0 l2 b (b != b) l1_0 a1_1 a1_2 R c d R c d) else (laws_FnExactFlowStep.j1 k l0 l2 b true l1_0 a1_1 a1_2 R c d R c d))))))) else (some false)))) else (some false)))) else (some false)))) (fun k => ?_) ?_
  · simp only [laws_FnExactFlowStep.j0]
    rw [if_neg (by simp)]
  refine Ev_bind _ e0 (Ev_bind _ (eqInts_ev l0 h0) ?_)
  simp only [if_true]
  refine Ev_bind _ e1 (Ev_bind _ (eqBook_ev l1_0 a1_1 a1_2 h1) ?_)
  simp only [if_true]
  refine Ev_bind _ e2 (Ev_bind _ (eqInts_ev l2 h2) ?_)
  simp only [if_true]
  refine Ev_bind _ (mark_ev l0 h0 1 (by omega) (by omega)) (Ev_bind _ (markBook_ev l1_0 a1_1 a1_2 h1 (1 + (l0.length : Int)) (by omega) (by omega)) (Ev_bind _ (mark_ev l2 h2 (1 + (l0.length : Int) + (l1_0.length : Int)) (by omega) (by omega)) ?_))
  simp only [if_neg (show ¬ 1 + (l0.length : Int) + (l1_0.length : Int) + (l2.length : Int) < 0 by omega)]
  refine Ev_bind _ eq ?_
  simp only [if_true]
  refine Ev.step (f := fun k => (laws_markBook.f k R c d 1).bind fun bt264 => ((laws_heldBook.f k bt264.2 c d 1).bind fun t266 => (if t266 < 0 then (some false) else (if t266 = bt264.1 then ((laws_toInt64S.f k l0).bind fun t267 => ((laws_toBook.f k l1_0 a1_1 a1_2).bind fun bt270 => ((laws_toInt64S.f k l2).bind fun t275 => ((impl_FlowStep.f k t267 bt270.1 bt270.2.1 bt270.2.2 t275).bind fun bt278 => ((laws_eqBook.f k bt278.1 bt278.2.1 bt278.2.2.1 R c d).bind fun t285 => (if t285 = true then (laws_FnExactFlowStep.j2 k bt264.1 (bt278.2.2.2 != b) bt264.2 c d) else (laws_FnExactFlowStep.j2 k bt264.1 true bt264.2 c d))))))) else (some false))))) (fun k => ?_) ?_
  · simp only [laws_FnExactFlowStep.j1]
    rw [if_neg (by simp)]
  refine Ev_bind _ (markBook_ev R c d hR 1 (by omega) (by omega)) (Ev_bind _ (heldBook_ev R.length c d hR 1 (by omega) (by omega)) ?_)
  simp only [if_neg (show ¬ 1 + (R.length : Int) < 0 by omega), if_true]
  refine Ev_bind _ e0 (Ev_bind _ e1 (Ev_bind _ e2 (Ev_bind _ eI (Ev_bind _ eq ?_))))
  simp only [if_true]
  refine Ev.step (f := fun k => (laws_heldBook.f k (rng 1 R.length) c d 1).bind fun t286 => (if t286 < 0 then (some false) else (if t286 = 1 + (R.length : Int) then (some true) else (some false)))) (fun k => ?_) ?_
  · simp only [laws_FnExactFlowStep.j2]
    rw [if_neg (by simp)]
  refine Ev_bind _ (heldBook_ev R.length c d hR 1 (by omega) (by omega)) ?_
  simp only [if_neg (show ¬ 1 + (R.length : Int) < 0 by omega), if_true]
  exact Ev.now _

end Go.Proofs.Ytopfdmodbhopiaa.QFnExactFlowStep
