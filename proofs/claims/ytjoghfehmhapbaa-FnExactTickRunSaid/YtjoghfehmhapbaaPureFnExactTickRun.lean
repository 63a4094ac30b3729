/- FnExactTickRun, plainly: both ways tell the same run and the same late tasks; copies, marks and comparisons answer as they should. No condition. -/
import Derived.Test.YtjoghfehmhapbaaRunLibFnExactTickRun
import Derived.Test.YtjoghfehmhapbaaStatFnExactTickRun
set_option linter.unusedVariables false
set_option linter.unusedSimpArgs false
namespace Go.Proofs.Ytjoghfehmhapbaa.QFnExactTickRun
open Go.RowKit Go.Proofs.YtjoghfehmhapbaaW.PrintWords Go.Proofs.YtjoghfehmhapbaaW.PrintMore Go.Proofs.Ytjoghfehmhapbaa.Opn Go.Proofs.Ytjoghfehmhapbaa.Pl

/-! ### the late tasks -/
def isLate (l0 : List S39) (l3 : List S43) (n m : Int) (i : Nat) : Prop := (rd_T39 l0 (i : Int)).f2 > 0 ∧ ¬ (rd_T43 l3 (i : Int)).f0 = 2 ∧ (rd_T39 l0 (i : Int)).f2 ≥ n ∧ (rd_T39 l0 (i : Int)).f2 < m
noncomputable def lateL (l0 : List S39) (l3 : List S43) (n m : Int) : Nat → List Int
  | 0 => []
  | i + 1 => lateL l0 l3 n m i ++ (if dec_ (isLate l0 l3 n m i) = true then [(i : Int) + 1] else [])
theorem late_len (l0 : List S39) (l3 : List S43) (n m : Int) : ∀ i, (lateL l0 l3 n m i).length ≤ i := by
  intro i
  induction i with
  | zero => exact Nat.le_refl _
  | succ i ih =>
    simp only [lateL, List.length_append]
    split <;> simp <;> omega
theorem specLate_ev (l0 : List S39) (l1 : List Int) (n m : Int) (l3 : List S43) (h : FitsR l0 l1 l3) (hl : l3.length = l0.length) : Ev (fun k => spec_TickRun.l0 k [] 0 l0 l1 n l3 l0 l1 m l3) (l0, l1, m, l3, lateL l0 l3 n m l3.length) := by
  have hn3 := h.n3
  have key := Ev_up (fun k i => spec_TickRun.l0 k (lateL l0 l3 n m i) (i : Int) l0 l1 n l3 l0 l1 m l3) (fun _ => (l0, l1, m, l3, lateL l0 l3 n m l3.length)) l3.length (by
      refine Ev.step (f := fun _ => some (l0, l1, m, l3, lateL l0 l3 n m l3.length)) (fun k => ?_) (Ev.now _)
      simp only [spec_TickRun.l0]
      rw [if_neg (by omega)]) (by
      intro i hi ih
      have hll := late_len l0 l3 n m i
      have ew : wrap64 ((i : Int) + 1) = (i : Int) + 1 := w64 (by omega) (by omega)
      refine Ev.step (fun k => ?_) ih
      simp only [spec_TickRun.l0, ew, lateL]
      rw [if_pos (by omega), if_pos (by omega), if_pos (by omega)]
      by_cases c1 : (rd_T39 l0 (i : Int)).f2 > 0
      · rw [if_pos c1]
        by_cases c2 : (rd_T43 l3 (i : Int)).f0 = 2
        · rw [if_pos c2, dec_false (p := isLate l0 l3 n m i) (fun x => x.2.1 c2), if_neg (by decide), List.append_nil]; rfl
        · rw [if_neg c2]
          by_cases c3 : (rd_T39 l0 (i : Int)).f2 ≥ n
          · rw [if_pos c3]
            by_cases c4 : (rd_T39 l0 (i : Int)).f2 < m
            · rw [if_pos c4, dec_true (p := isLate l0 l3 n m i) ⟨c1, c2, c3, c4⟩, if_pos rfl, if_pos (by omega)]; rfl
            · rw [if_neg c4, dec_false (p := isLate l0 l3 n m i) (fun x => c4 x.2.2.2), if_neg (by decide), List.append_nil]; rfl
          · rw [if_neg c3, dec_false (p := isLate l0 l3 n m i) (fun x => c3 x.2.2.1), if_neg (by decide), List.append_nil]; rfl
      · rw [if_neg c1, dec_false (p := isLate l0 l3 n m i) (fun x => c1 x.1), if_neg (by decide), List.append_nil]; rfl) 0 (Nat.zero_le _)
  simpa [lateL] using key
theorem implLate_ev (l0 : List S39) (l1 : List Int) (n m : Int) (l3 : List S43) (h : FitsR l0 l1 l3) (hl : l3.length = l0.length) : Ev (fun k => impl_TickRun.l0 k [] l0 (l0.length : Int) 0 l0 l1 n l3 l0 l1 m l3) (l0, l1, m, l3, lateL l0 l3 n m l3.length) := by
  have hn3 := h.n3
  rw [hl]
  have key := Ev_up (fun k i => impl_TickRun.l0 k (lateL l0 l3 n m i) l0 (l0.length : Int) (i : Int) l0 l1 n l3 l0 l1 m l3) (fun _ => (l0, l1, m, l3, lateL l0 l3 n m l0.length)) l0.length (by
      refine Ev.step (f := fun _ => some (l0, l1, m, l3, lateL l0 l3 n m l0.length)) (fun k => ?_) (Ev.now _)
      simp only [impl_TickRun.l0]
      rw [if_neg (by omega)]) (by
      intro i hi ih
      have hll := late_len l0 l3 n m i
      have ew : wrap64 ((i : Int) + 1) = (i : Int) + 1 := w64 (by omega) (by omega)
      refine Ev.step (fun k => ?_) ih
      simp only [impl_TickRun.l0, ew, lateL]
      rw [if_pos (by omega), if_pos (by omega), if_pos (by omega)]
      by_cases c1 : (rd_T39 l0 (i : Int)).f2 > 0
      · rw [if_pos c1, if_pos (by omega)]
        by_cases c2 : (rd_T43 l3 (i : Int)).f0 = 2
        · rw [if_pos c2, dec_false (p := isLate l0 l3 n m i) (fun x => x.2.1 c2), if_neg (by decide), List.append_nil]; rfl
        · rw [if_neg c2]
          by_cases c3 : (rd_T39 l0 (i : Int)).f2 ≥ n
          · rw [if_pos c3]
            by_cases c4 : (rd_T39 l0 (i : Int)).f2 < m
            · rw [if_pos c4, dec_true (p := isLate l0 l3 n m i) ⟨c1, c2, c3, c4⟩, if_pos rfl, if_pos (by omega)]; rfl
            · rw [if_neg c4, dec_false (p := isLate l0 l3 n m i) (fun x => c4 x.2.2.2), if_neg (by decide), List.append_nil]; rfl
          · rw [if_neg c3, dec_false (p := isLate l0 l3 n m i) (fun x => c3 x.2.2.1), if_neg (by decide), List.append_nil]; rfl
      · rw [if_neg c1, dec_false (p := isLate l0 l3 n m i) (fun x => c1 x.1), if_neg (by decide), List.append_nil]; rfl) 0 (Nat.zero_le _)
  simpa [lateL] using key

/-! ### the run later on -/
def tickN (n a : Int) : Int := if n + a ≤ 1000000000000 then n + a else 1000000000000
noncomputable def tickRun (l0 : List S39) (l1 : List Int) (n : Int) (l3 : List S43) (a : Int) : List S39 × List Int × Int × List S43 × List Int :=
  if dec_ (runP l0 l1 n l3) = true ∧ 0 ≤ a then (l0, l1, tickN n a, l3, lateL l0 l3 n (tickN n a) l3.length) else ([], [], 0, [], [])
theorem specTick_ev (l0 : List S39) (l1 : List Int) (n : Int) (l3 : List S43) (a : Int) (h : FitsR l0 l1 l3) : Ev (fun k => spec_TickRun.f k l0 l1 n l3 a) (tickRun l0 l1 n l3 a) := by
  have bad : Ev (fun k => spec_TickRun.j0 k a [] true l0 l1 n l3) ([], [], 0, [], []) := Ev.step (f := fun _ => some ([], [], 0, [], [])) (fun k => by simp only [spec_TickRun.j0, if_true]) (Ev.now _)
  unfold spec_TickRun.f tickRun
  simp only [Option.bind_some]
  refine Ev_bind _ (specOkR_ev l0 l1 n l3 h) ?_
  by_cases c : runP l0 l1 n l3
  · rw [dec_true c]
    simp only [if_true, true_and]
    by_cases c2 : a < 0
    · rw [if_neg (show ¬ 0 ≤ a by omega), decide_eq_true c2]
      exact bad
    · rw [if_pos (show 0 ≤ a by omega), decide_eq_false c2]
      have hn := c.2.1
      have e : mn (wrap64 (n + mn a 1000000000000)) 1000000000000 = tickN n a := by
        have e1 : wrap64 (n + mn a 1000000000000) = n + mn a 1000000000000 := w64 (by unfold mn; split <;> omega) (by unfold mn; split <;> omega)
        rw [e1]
        unfold mn tickN
        split <;> split <;> split <;> omega
      refine Ev.step (f := fun k => (spec_l24Copy.f k l0 l1 n l3).bind fun bt => spec_TickRun.l0 k [] 0 l0 l1 n l3 bt.1 bt.2.1 (tickN n a) bt.2.2.2) (fun k => by simp only [spec_TickRun.j0, Bool.false_eq_true, if_false, e]) ?_
      exact Ev_bind _ (specCopyR_ev l0 l1 n l3 h) (specLate_ev l0 l1 n _ l3 h c.2.2.1)
  · rw [dec_false c]
    simp only [Bool.false_eq_true, if_false, false_and]
    exact bad
theorem implTick_ev (l0 : List S39) (l1 : List Int) (n : Int) (l3 : List S43) (a : Int) (h : FitsR l0 l1 l3) : Ev (fun k => impl_TickRun.f k l0 l1 n l3 a) (tickRun l0 l1 n l3 a) := by
  have bad : Ev (fun k => impl_TickRun.j0 k a true l0 l1 n l3) ([], [], 0, [], []) := Ev.step (f := fun _ => some ([], [], 0, [], [])) (fun k => by simp only [impl_TickRun.j0, if_true]) (Ev.now _)
  unfold impl_TickRun.f tickRun
  refine Ev_bind _ (implOkR_ev l0 l1 n l3 h) ?_
  by_cases c : runP l0 l1 n l3
  · rw [dec_true c]
    simp only [if_true, true_and]
    by_cases c2 : a < 0
    · rw [if_neg (show ¬ 0 ≤ a by omega), decide_eq_true c2]
      exact bad
    · rw [if_pos (show 0 ≤ a by omega), decide_eq_false c2]
      have hn := c.2.1
      have e : wrap64 (n + mn a (wrap64 (1000000000000 - n))) = tickN n a := by
        have e1 : wrap64 (1000000000000 - n) = 1000000000000 - n := w64 (by omega) (by omega)
        rw [e1]
        have e2 : wrap64 (n + mn a (1000000000000 - n)) = n + mn a (1000000000000 - n) := w64 (by unfold mn; split <;> omega) (by unfold mn; split <;> omega)
        rw [e2]
        unfold mn tickN
        split <;> split <;> omega
      refine Ev.step (f := fun k => (impl_copyRun.f k l0 l1 n l3).bind fun bt => impl_TickRun.l0 k [] l0 (l0.length : Int) 0 l0 l1 n l3 bt.1 bt.2.1 (wrap64 (bt.2.2.1 + mn a (wrap64 (1000000000000 - bt.2.2.1)))) bt.2.2.2) (fun k => by simp only [impl_TickRun.j0, Bool.false_eq_true, if_false]) ?_
      refine Ev_bind _ (implCopyR_ev l0 l1 n l3 h) ?_
      simp only [e]
      exact implLate_ev l0 l1 n _ l3 h c.2.2.1
  · rw [dec_false c]
    simp only [Bool.false_eq_true, if_false, false_and]
    exact bad
theorem tick_fits {l0 : List S39} {l1 : List Int} {l3 : List S43} (n a : Int) (h : FitsR l0 l1 l3) : FitsR (tickRun l0 l1 n l3 a).1 (tickRun l0 l1 n l3 a).2.1 (tickRun l0 l1 n l3 a).2.2.2.1 ∧ (tickRun l0 l1 n l3 a).2.2.2.2.length ≤ 1048576 := by
  unfold tickRun
  split
  · exact ⟨⟨h.s, h.n3⟩, Nat.le_trans (late_len _ _ _ _ _) h.n3⟩
  · exact ⟨fits_none, by simp⟩

theorem Pure.FnExactTickRun : FnExactTickRun_Pure := by
  intro a d n j t w0 w1 w2 w3 w4
  refine Ev.rounds (g := fun k => laws_FnExactTickRun.f k a d n j t) ?_
  unfold laws_FnExactTickRun.f
  obtain ⟨r, hr, hc⟩ := szRun_ev a d n j w0.1 (fun i hi => (wfL_get w0 i hi).1.1) w1.1 w3.1
  refine Ev_bind _ hr ?_
  by_cases c : r < 0
  · simp only [if_pos c]; exact Ev.now _
  simp only [if_neg c]
  have sm := hc.resolve_left c
  have fit := sm.fits
  have e0 := toRun_ev n sm
  have eS := specTick_ev _ _ n _ t fit
  have eI := implTick_ev _ _ n _ t fit
  obtain ⟨rf, r4⟩ := tick_fits n t fit
  generalize tickRun (a.map toT) d n (j.map toJ) t = X at eS eI rf r4
  obtain ⟨x0, x1, m, x3, x4⟩ := X
  simp only at rf r4
  have eq := eqRun_ev rf.s m x3 rf.n3
  have eq4 := eqI_ev x4 r4
  have eq0 := eqRun_ev fit.s n _ fit.n3
  refine Ev_bind _ e0 (Ev_bind _ eS (Ev_bind _ e0 (Ev_bind _ eI (Ev_bind _ eq ?_))))
  simp only [if_true]
  refine Ev_bind _ eq4 ?_
  refine Ev.step (fun k => by simp only [laws_FnExactTickRun.j0]; rw [if_neg (by simp)]) ?_
  refine Ev_bind _ e0 (Ev_bind _ eq0 ?_)
  simp only [if_true]
  obtain ⟨q, y0, y1, y3, em, hq, _⟩ := markRun_ev fit.s n _ fit.n3 1 (by omega) (by omega)
  refine Ev_bind _ em ?_
  simp only [if_neg (show ¬ q < 0 by omega)]
  refine Ev_bind _ eq ?_
  simp only [if_true]
  refine Ev_bind _ eq4 ?_
  refine Ev.step (fun k => by simp only [laws_FnExactTickRun.j1]; rw [if_neg (by simp)]) ?_
  obtain ⟨p, z0, z1, z3, eq1, ⟨hp, hp2⟩, eh⟩ := markRun_ev2 rf.s m x3 rf.n3 1 (by omega) (by omega)
  obtain ⟨z4, em4, hz4, hh4⟩ := markInt_ev x4 p (by omega) (by omega)
  have eh4 := heldInt_ev z4 p (by omega) (by omega) hh4
  rw [hz4] at eh4
  refine Ev_bind _ eq1 (Ev_bind _ em4 (Ev_bind _ eh ?_))
  simp only [if_neg (show ¬ p < 0 by omega)]
  refine Ev_bind _ eh4 ?_
  simp only [if_neg (show ¬ p + (x4.length : Int) < 0 by omega), if_true]
  refine Ev_bind _ e0 (Ev_bind _ eI (Ev_bind _ eq ?_))
  simp only [if_true]
  refine Ev_bind _ eq4 ?_
  refine Ev.step (fun k => by simp only [laws_FnExactTickRun.j2]; rw [if_neg (by simp)]) ?_
  refine Ev_bind _ eh ?_
  simp only [if_neg (show ¬ p < 0 by omega)]
  refine Ev_bind _ eh4 ?_
  simp only [if_neg (show ¬ p + (x4.length : Int) < 0 by omega), if_true]
  exact Ev.now _
end Go.Proofs.Ytjoghfehmhapbaa.QFnExactTickRun
