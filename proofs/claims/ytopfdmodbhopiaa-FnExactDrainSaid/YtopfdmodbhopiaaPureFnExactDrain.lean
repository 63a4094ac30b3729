/- FnExactDrain, plainly: both Drain functions tell the same two lists; copies, marks and comparisons of equal lists answer as they should. No condition. -/
import Derived.Test.YtopfdmodbhopiaaDrainTopFnExactDrain
import Derived.Test.YtopfdmodbhopiaaStatFnExactDrain
set_option linter.unusedVariables false
set_option linter.unusedSimpArgs false
namespace Go.Proofs.Ytopfdmodbhopiaa.QFnExactDrain
open Go.RowKit Go.Proofs.YtopfdmodbhopiaaW.PrintWords Go.Proofs.Ytopfdmodbhopiaa.Opn Go.Proofs.Ytopfdmodbhopiaa.Pl

theorem toBox_ev (R C : Int) (l : List Int) (hl : l.length ≤ 1048576) : Ev (fun k => laws_toBox.f k R C l) (R, C, l) := by
  unfold laws_toBox.f
  exact Ev_bind _ (toInts_ev l hl) (Ev.now _)
theorem eqBox_ev (R C : Int) (l : List Int) (hl : l.length ≤ 1048576) : Ev (fun k => laws_eqBox.f k R C l R C l) true := by
  unfold laws_eqBox.f
  simp only [if_true]
  refine Ev_bind _ (eqInts_ev l hl) ?_
  simpa using Ev.now true
theorem markBox_ev (R C : Int) (l : List Int) (hl : l.length ≤ 1048576) : Ev (fun k => laws_markBox.f k R C l 1) (1 + (l.length : Int), rng 1 l.length) := by
  unfold laws_markBox.f
  exact Ev_bind _ (mark_ev l hl 1 (by omega) (by omega)) (Ev.now _)

theorem Pure.FnExactDrain : FnExactDrain_Pure := by
  intro R C l _ _ wl
  refine Ev.rounds (g := fun k => laws_FnExactDrain.f k R C l) ?_
  unfold laws_FnExactDrain.f
  have hl1 : l.length ≤ 9223372036854775807 := by have := wl.1; omega
  obtain ⟨t, ht, hs⟩ := szInt l hl1 1048576 (by omega) (by omega)
  have hsz : laws_szBox.f R C l 1048576 = some (if t < 0 then -1 else t) := by
    unfold laws_szBox.f
    rw [ht, Option.bind_some]
    split <;> rfl
  simp only [hsz, Option.bind_some]
  by_cases gt : t < 0
  · simp only [if_pos gt, if_pos (show (-1 : Int) < 0 by decide)]; exact Ev.now _
  simp only [if_neg gt]
  have hl : l.length ≤ 1048576 := by omega
  obtain ⟨⟨a, b⟩, eS, eI, ha, hb⟩ := drain_both R C l hl
  have ha' : a.length ≤ 1048576 := ha
  have hb' : b.length ≤ 1048576 := hb
  have eT := toBox_ev R C l hl
  refine Ev_bind _ eT (Ev_bind _ eS (Ev_bind _ eT (Ev_bind _ eI (Ev_bind _ (eqInts_ev a ha') ?_))))
  simp only [if_true]
  refine Ev_bind _ (eqInts_ev b hb') ?_
  simp only [Bool.not_true]
  refine Ev.step (f := fun k => (laws_toBox.f k R C l).bind fun bt294 => ((laws_eqBox.f k R C l bt294.1 bt294.2.1 bt294.2.2).bind fun t299 => (if t299 = true then ((laws_markBox.f k R C l 1).bind fun bt300 => (if bt300.1 < 0 then (laws_FnExactDrain.j1 k a b a b true R C l) else ((laws_eqInt64S.f k a a).bind fun t302 => (if t302 = true then ((laws_eqInt64S.f k b b).bind fun t303 => (laws_FnExactDrain.j1 k a b a b (!t303) R C l)) else (laws_FnExactDrain.j1 k a b a b true R C l))))) else (some false)))) (fun k => ?_) ?_
  · simp only [laws_FnExactDrain.j0]
    rw [if_neg (by simp)]
  refine Ev_bind _ eT (Ev_bind _ (eqBox_ev R C l hl) ?_)
  simp only [if_true]
  refine Ev_bind _ (markBox_ev R C l hl) ?_
  simp only [if_neg (show ¬ 1 + (l.length : Int) < 0 by omega)]
  refine Ev_bind _ (eqInts_ev a ha') ?_
  simp only [if_true]
  refine Ev_bind _ (eqInts_ev b hb') ?_
  simp only [Bool.not_true]
  refine Ev.step (f := fun k => (laws_markInt64S.f k a 1).bind fun bt304 => ((laws_markInt64S.f k b bt304.1).bind fun bt306 => ((laws_heldInt64S.f k bt304.2 1).bind fun t308 => (if t308 < 0 then (some false) else ((laws_heldInt64S.f k bt306.2 t308).bind fun t309 => (if t309 < 0 then (some false) else (if t309 = bt306.1 then ((laws_toBox.f k R C l).bind fun bt310 => ((impl_Drain.f k bt310.1 bt310.2.1 bt310.2.2).bind fun bt315 => ((laws_eqInt64S.f k bt315.1 a).bind fun t321 => (if t321 = true then ((laws_eqInt64S.f k bt315.2 b).bind fun t322 => (laws_FnExactDrain.j2 k bt304.2 bt306.2 bt306.1 (!t322))) else (laws_FnExactDrain.j2 k bt304.2 bt306.2 bt306.1 true))))) else (some false)))))))) (fun k => ?_) ?_
  · simp only [laws_FnExactDrain.j1]
    rw [if_neg (by simp)]
  have m1 := mark_ev a ha' 1 (by omega) (by omega)
  have m2 := mark_ev b hb' (1 + (a.length : Int)) (by omega) (by omega)
  have h1 := held_ev a.length ha' 1 (by omega) (by omega)
  have h2 := held_ev b.length hb' (1 + (a.length : Int)) (by omega) (by omega)
  refine Ev_bind _ m1 (Ev_bind _ m2 (Ev_bind _ h1 ?_))
  simp only [if_neg (show ¬ 1 + (a.length : Int) < 0 by omega)]
  refine Ev_bind _ h2 ?_
  simp only [if_neg (show ¬ 1 + (a.length : Int) + (b.length : Int) < 0 by omega), if_true]
  refine Ev_bind _ eT (Ev_bind _ eI (Ev_bind _ (eqInts_ev a ha') ?_))
  simp only [if_true]
  refine Ev_bind _ (eqInts_ev b hb') ?_
  simp only [Bool.not_true]
  refine Ev.step (f := fun k => (laws_heldInt64S.f k (rng 1 a.length) 1).bind fun t323 => (if t323 < 0 then (some false) else ((laws_heldInt64S.f k (rng (1 + (a.length : Int)) b.length) t323).bind fun t324 => (if t324 < 0 then (some false) else (if t324 = 1 + (a.length : Int) + (b.length : Int) then (some true) else (some false)))))) (fun k => ?_) ?_
  · simp only [laws_FnExactDrain.j2]
    rw [if_neg (by simp)]
  refine Ev_bind _ h1 ?_
  simp only [if_neg (show ¬ 1 + (a.length : Int) < 0 by omega)]
  refine Ev_bind _ h2 ?_
  simp only [if_neg (show ¬ 1 + (a.length : Int) + (b.length : Int) < 0 by omega), if_true]
  exact Ev.now _

end Go.Proofs.Ytopfdmodbhopiaa.QFnExactDrain
