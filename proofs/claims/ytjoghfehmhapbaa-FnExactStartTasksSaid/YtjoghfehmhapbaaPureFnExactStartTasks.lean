/- FnExactStartTasks, plainly: both ways begin the same tasks and leave the same run; copies, marks and comparisons answer as they should. No condition. -/
import Derived.Test.YtjoghfehmhapbaaRunLibFnExactStartTasks
import Derived.Test.YtjoghfehmhapbaaStatFnExactStartTasks
set_option linter.unusedVariables false
set_option linter.unusedSimpArgs false
namespace Go.Proofs.Ytjoghfehmhapbaa.QFnExactStartTasks
open Go.RowKit Go.Proofs.YtjoghfehmhapbaaW.PrintWords Go.Proofs.YtjoghfehmhapbaaW.PrintMore Go.Proofs.Ytjoghfehmhapbaa.Opn Go.Proofs.Ytjoghfehmhapbaa.Pl

/-! ### what a start begins -/
def begins (l0 : List S39) (l1 : List Int) (x : List S43) (i : Nat) : Prop := (rd_T43 x (i : Int)).f0 = 0 ∧ freeFrom x (rd_T39 l0 (i : Int)).f0 0 ∧ cntG l0 x (rd_T39 l0 (i : Int)).f1 x.length < rd l1 ((rd_T39 l0 (i : Int)).f1 - 1)
noncomputable def startL (l0 : List S39) (l1 : List Int) : Nat → Nat → List S43 → List Int → List S43 × List Int
  | 0, _, x, bg => (x, bg)
  | d + 1, i, x, bg => if dec_ (begins l0 l1 x i) = true then startL l0 l1 d (i + 1) (x.set i ⟨1, wrap64 ((rd_T43 x (i : Int)).f1 + 1)⟩) (bg ++ [((i + 1 : Nat) : Int)]) else startL l0 l1 d (i + 1) x bg
theorem startL_len (l0 : List S39) (l1 : List Int) : ∀ (d i : Nat) (x : List S43) (bg : List Int), (startL l0 l1 d i x bg).1.length = x.length ∧ (startL l0 l1 d i x bg).2.length ≤ bg.length + d := by
  intro d
  induction d with
  | zero => intro i x bg; exact ⟨rfl, Nat.le_refl _⟩
  | succ d ih =>
    intro i x bg
    simp only [startL]
    split
    · obtain ⟨a, b⟩ := ih (i + 1) (x.set i ⟨1, wrap64 ((rd_T43 x (i : Int)).f1 + 1)⟩) (bg ++ [((i + 1 : Nat) : Int)])
      refine ⟨by rw [a, List.length_set], ?_⟩
      simp at b
      simp at b ⊢
      omega
    · obtain ⟨a, b⟩ := ih (i + 1) x bg
      exact ⟨a, by omega⟩
theorem specStartL_ev (l0 : List S39) (l1 : List Int) (n : Int) (N : Nat) (hs : suiteOk l0 l1) (hF : Fits l0 l1) (hl : N = l0.length) : ∀ (d i : Nat) (x : List S43) (bg : List Int), i + d = N → x.length = N → bg.length ≤ i → Ev (fun k => spec_StartTasks.l0 k bg (i : Int) l0 l1 n x) (l0, l1, n, (startL l0 l1 d i x bg).1, (startL l0 l1 d i x bg).2) := by
  have hn0 := hF.n0
  have hn2 := hF.n2
  intro d
  induction d with
  | zero =>
    intro i x bg hi hx hb
    refine Ev.step (f := fun _ => some (l0, l1, n, x, bg)) (fun k => ?_) (Ev.now _)
    simp only [spec_StartTasks.l0]
    rw [if_neg (by omega)]
  | succ d ih =>
    intro i x bg hi hx hb
    have hil : i < x.length := by omega
    have ew : wrap64 ((i : Int) + 1) = ((i + 1 : Nat) : Int) := by rw [w64 (by omega) (by omega)]; rfl
    have hg := (hs.2.2.2 i (Nat.zero_le _) (by omega)).1.1
    have ew2 : wrap64 ((rd_T39 l0 (i : Int)).f1 - 1) = (rd_T39 l0 (i : Int)).f1 - 1 := w64 (by omega) (by omega)
    simp only [startL]
    by_cases c0 : (rd_T43 x (i : Int)).f0 = 0
    · have ef := specFree_ev l0 l1 n x i (by omega) (hF.n1 i (by omega)) (by omega) (after_bd hs (by omega) i hil)
      have er := specRunning_ev l0 l1 n x (rd_T39 l0 (i : Int)).f1 (by omega) (by omega)
      refine Ev.step (f := fun k => (spec_l24Free.f k l0 l1 n x (i : Int)).bind fun t => if t = true then ((spec_l24Running.f k l0 l1 n x (rd_T39 l0 (i : Int)).f1).bind fun t3 => if t3 < rd l1 ((rd_T39 l0 (i : Int)).f1 - 1) then spec_StartTasks.l0 k (bg ++ [((i + 1 : Nat) : Int)]) ((i + 1 : Nat) : Int) l0 l1 n (x.set i ⟨1, wrap64 ((rd_T43 x (i : Int)).f1 + 1)⟩) else spec_StartTasks.l0 k bg ((i + 1 : Nat) : Int) l0 l1 n x) else spec_StartTasks.l0 k bg ((i + 1 : Nat) : Int) l0 l1 n x) (fun k => ?_) (Ev_bind _ ef ?_)
      · simp only [spec_StartTasks.l0, ew, ew2, Int.toNat_natCast]
        rw [if_pos (by omega), if_pos (by omega), if_pos (by omega), if_pos c0]
        simp only [if_pos (show 0 ≤ (rd_T39 l0 (i : Int)).f1 - 1 by omega), if_pos (show (rd_T39 l0 (i : Int)).f1 - 1 < (l1.length : Int) by omega), if_pos (show bg.length < 17592186044416 by omega)]
      by_cases c1 : freeFrom x (rd_T39 l0 (i : Int)).f0 0
      · simp only [dec_true c1, if_true]
        refine Ev_bind _ er ?_
        by_cases c2 : cntG l0 x (rd_T39 l0 (i : Int)).f1 x.length < rd l1 ((rd_T39 l0 (i : Int)).f1 - 1)
        · rw [dec_true (p := begins l0 l1 x i) ⟨c0, c1, c2⟩]
          simp only [if_pos c2, if_true]
          exact ih (i + 1) _ _ (by omega) (by simpa using hx) (by simp; omega)
        · rw [dec_false (p := begins l0 l1 x i) (fun z => c2 z.2.2)]
          simp only [if_neg c2, Bool.false_eq_true, if_false]
          exact ih (i + 1) _ _ (by omega) hx (by omega)
      · rw [dec_false (p := begins l0 l1 x i) (fun z => c1 z.2.1)]
        simp only [dec_false c1, Bool.false_eq_true, if_false]
        exact ih (i + 1) _ _ (by omega) hx (by omega)
    · rw [dec_false (p := begins l0 l1 x i) (fun z => c0 z.1)]
      simp only [Bool.false_eq_true, if_false]
      refine Ev.step (fun k => ?_) (ih (i + 1) _ _ (by omega) hx (by omega))
      simp only [spec_StartTasks.l0, ew]
      rw [if_pos (by omega), if_pos (by omega), if_pos (by omega), if_neg c0]
theorem set_set_job (x : List S43) (i : Nat) (hi : i < x.length) : ((x.set i ⟨1, (rd_T43 x (i : Int)).f1⟩).set i ⟨(rd_T43 (x.set i ⟨1, (rd_T43 x (i : Int)).f1⟩) (i : Int)).f0, wrap64 ((rd_T43 (x.set i ⟨1, (rd_T43 x (i : Int)).f1⟩) (i : Int)).f1 + 1)⟩ : List S43) = x.set i ⟨1, wrap64 ((rd_T43 x (i : Int)).f1 + 1)⟩ := set_two (y1 := x.set i ⟨1, (rd_T43 x (i : Int)).f1⟩) (i := (i : Int)) (by omega) (by omega) (by simp) (by simp)
theorem implStartL_ev (l0 : List S39) (l1 : List Int) (n : Int) (N : Nat) (hs : suiteOk l0 l1) (hF : Fits l0 l1) (hl : N = l0.length) : ∀ (d i : Nat) (x : List S43) (bg : List Int), i + d = N → x.length = N → bg.length ≤ i → Ev (fun k => impl_StartTasks.l0 k bg (N : Int) (i : Int) l0 l1 n x) (l0, l1, n, (startL l0 l1 d i x bg).1, (startL l0 l1 d i x bg).2) := by
  have hn0 := hF.n0
  have hn2 := hF.n2
  intro d
  induction d with
  | zero =>
    intro i x bg hi hx hb
    refine Ev.step (f := fun _ => some (l0, l1, n, x, bg)) (fun k => ?_) (Ev.now _)
    simp only [impl_StartTasks.l0]
    rw [if_neg (by omega)]
  | succ d ih =>
    intro i x bg hi hx hb
    have hil : i < x.length := by omega
    have ew : wrap64 ((i : Int) + 1) = ((i + 1 : Nat) : Int) := by rw [w64 (by omega) (by omega)]; rfl
    have hg := (hs.2.2.2 i (Nat.zero_le _) (by omega)).1.1
    have ew2 : wrap64 ((rd_T39 l0 (i : Int)).f1 - 1) = (rd_T39 l0 (i : Int)).f1 - 1 := w64 (by omega) (by omega)
    simp only [startL]
    by_cases c0 : (rd_T43 x (i : Int)).f0 = 0
    · have ef := implFree_ev l0 l1 n x i (by omega) (hF.n1 i (by omega)) (by omega) (after_bd hs (by omega) i hil)
      refine Ev.step (f := fun k => (impl_Run_done.f k l0 l1 n x (i : Int)).bind fun t => if t = true then (if cntG l0 x (rd_T39 l0 (i : Int)).f1 x.length < rd l1 ((rd_T39 l0 (i : Int)).f1 - 1) then impl_StartTasks.l0 k (bg ++ [((i + 1 : Nat) : Int)]) (N : Int) ((i + 1 : Nat) : Int) l0 l1 n (x.set i ⟨1, wrap64 ((rd_T43 x (i : Int)).f1 + 1)⟩) else impl_StartTasks.l0 k bg (N : Int) ((i + 1 : Nat) : Int) l0 l1 n x) else impl_StartTasks.l0 k bg (N : Int) ((i + 1 : Nat) : Int) l0 l1 n x) (fun k => ?_) (Ev_bind _ ef ?_)
      · simp only [impl_StartTasks.l0, impl_count.f, ew, ew2, Int.toNat_natCast, Option.bind_some]
        rw [if_pos (by omega), if_pos (by omega), if_pos (by omega), if_pos (by omega), if_pos c0]
        simp only [if_pos (show 0 ≤ (rd_T39 l0 (i : Int)).f1 - 1 by omega), if_pos (show (rd_T39 l0 (i : Int)).f1 - 1 < (l1.length : Int) by omega), if_pos (show bg.length < 17592186044416 by omega), set_set_job x i hil]
        by_cases c2 : cntG l0 x (rd_T39 l0 (i : Int)).f1 x.length < rd l1 ((rd_T39 l0 (i : Int)).f1 - 1)
        · simp only [if_pos c2, if_neg (show ¬ cntG l0 x (rd_T39 l0 (i : Int)).f1 x.length ≥ rd l1 ((rd_T39 l0 (i : Int)).f1 - 1) by omega)]
        · simp only [if_neg c2, if_pos (show cntG l0 x (rd_T39 l0 (i : Int)).f1 x.length ≥ rd l1 ((rd_T39 l0 (i : Int)).f1 - 1) by omega)]
      by_cases c1 : freeFrom x (rd_T39 l0 (i : Int)).f0 0
      · simp only [dec_true c1, if_true]
        by_cases c2 : cntG l0 x (rd_T39 l0 (i : Int)).f1 x.length < rd l1 ((rd_T39 l0 (i : Int)).f1 - 1)
        · rw [dec_true (p := begins l0 l1 x i) ⟨c0, c1, c2⟩]
          simp only [if_pos c2, if_true]
          exact ih (i + 1) _ _ (by omega) (by simpa using hx) (by simp; omega)
        · rw [dec_false (p := begins l0 l1 x i) (fun z => c2 z.2.2)]
          simp only [if_neg c2, Bool.false_eq_true, if_false]
          exact ih (i + 1) _ _ (by omega) hx (by omega)
      · rw [dec_false (p := begins l0 l1 x i) (fun z => c1 z.2.1)]
        simp only [dec_false c1, Bool.false_eq_true, if_false]
        exact ih (i + 1) _ _ (by omega) hx (by omega)
    · rw [dec_false (p := begins l0 l1 x i) (fun z => c0 z.1)]
      simp only [Bool.false_eq_true, if_false]
      refine Ev.step (fun k => ?_) (ih (i + 1) _ _ (by omega) hx (by omega))
      simp only [impl_StartTasks.l0, ew]
      rw [if_pos (by omega), if_pos (by omega), if_pos (by omega), if_pos (by omega), if_neg c0]
noncomputable def startRun (l0 : List S39) (l1 : List Int) (n : Int) (l3 : List S43) : List S39 × List Int × Int × List S43 × List Int :=
  if dec_ (runP l0 l1 n l3) = true then (l0, l1, n, (startL l0 l1 l3.length 0 l3 []).1, (startL l0 l1 l3.length 0 l3 []).2) else ([], [], 0, [], [])
theorem specStart_ev' (l0 : List S39) (l1 : List Int) (n : Int) (l3 : List S43) (h : FitsR l0 l1 l3) : Ev (fun k => spec_StartTasks.f k l0 l1 n l3) (startRun l0 l1 n l3) := by
  unfold spec_StartTasks.f startRun
  simp only [Option.bind_some]
  refine Ev_bind _ (specOkR_ev l0 l1 n l3 h) ?_
  by_cases c : runP l0 l1 n l3
  · rw [dec_true c]
    simp only [if_true]
    exact Ev_bind _ (specCopyR_ev l0 l1 n l3 h) (specStartL_ev l0 l1 n l3.length c.1 h.s c.2.2.1 l3.length 0 l3 [] (by omega) rfl (by simp))
  · rw [dec_false c]
    simp only [Bool.false_eq_true, if_false]
    exact Ev.now _
theorem runningA_ok {l0 : List S39} {l1 : List Int} {l3 : List S43} (k : Nat) (n : Int) (h : FitsR l0 l1 l3) (hs : suiteOk l0 l1) (hl : l3.length = l0.length) : impl_runningA.f k l0 l1 n l3 = some true := by
  unfold impl_runningA.f
  rw [if_pos ⟨⟨by omega, h.n3, h.s.n2⟩, fun q hq => (hs.2.2.2 q (Nat.zero_le _) (by have := List.mem_range.mp hq; omega)).1.1⟩]
theorem implStart_ev (l0 : List S39) (l1 : List Int) (n : Int) (l3 : List S43) (h : FitsR l0 l1 l3) : Ev (fun k => impl_StartTasks.f k l0 l1 n l3) (startRun l0 l1 n l3) := by
  unfold impl_StartTasks.f startRun
  refine Ev_bind _ (implOkR_ev l0 l1 n l3 h) ?_
  by_cases c : runP l0 l1 n l3
  · rw [dec_true c]
    simp only [if_true]
    refine Ev_bind _ (implCopyR_ev l0 l1 n l3 h) ?_
    simp only [runningA_ok _ n h c.1 c.2.2.1, Option.bind_some]
    exact implStartL_ev l0 l1 n l3.length c.1 h.s c.2.2.1 l3.length 0 l3 [] (by omega) rfl (by simp)
  · rw [dec_false c]
    simp only [Bool.false_eq_true, if_false]
    exact Ev.now _
theorem start_fits {l0 : List S39} {l1 : List Int} {l3 : List S43} (n : Int) (h : FitsR l0 l1 l3) : FitsR (startRun l0 l1 n l3).1 (startRun l0 l1 n l3).2.1 (startRun l0 l1 n l3).2.2.2.1 ∧ (startRun l0 l1 n l3).2.2.2.2.length ≤ 1048576 := by
  have hn3 := h.n3
  unfold startRun
  split
  · obtain ⟨a, b⟩ := startL_len l0 l1 l3.length 0 l3 []
    exact ⟨⟨h.s, by simp only [a]; exact hn3⟩, by simp at b; simp only; omega⟩
  · exact ⟨fits_none, by simp⟩


theorem Pure.FnExactStartTasks : FnExactStartTasks_Pure := by
  intro a d n j w0 w1 w2 w3
  refine Ev.rounds (g := fun k => laws_FnExactStartTasks.f k a d n j) ?_
  unfold laws_FnExactStartTasks.f
  obtain ⟨r, hr, hc⟩ := szRun_ev a d n j w0.1 (fun i hi => (wfL_get w0 i hi).1.1) w1.1 w3.1
  refine Ev_bind _ hr ?_
  by_cases c : r < 0
  · simp only [if_pos c]; exact Ev.now _
  simp only [if_neg c]
  have sm := hc.resolve_left c
  have fit := sm.fits
  have e0 := toRun_ev n sm
  have eS := specStart_ev' _ _ n _ fit
  have eI := implStart_ev _ _ n _ fit
  obtain ⟨rf, r4⟩ := start_fits n fit
  generalize startRun (a.map toT) d n (j.map toJ) = X at eS eI rf r4
  obtain ⟨x0, x1, m, x3, x4⟩ := X
  simp only at rf r4
  have eq := eqRun_ev rf.s m x3 rf.n3
  have eq4 := eqI_ev x4 r4
  have eq0 := eqRun_ev fit.s n _ fit.n3
  refine Ev_bind _ e0 (Ev_bind _ eS (Ev_bind _ e0 (Ev_bind _ eI (Ev_bind _ eq ?_))))
  simp only [if_true]
  refine Ev_bind _ eq4 ?_
  refine Ev.step (fun k => by simp only [laws_FnExactStartTasks.j0]; rw [if_neg (by simp)]) ?_
  refine Ev_bind _ e0 (Ev_bind _ eq0 ?_)
  simp only [if_true]
  obtain ⟨q, y0, y1, y3, em, hq, _⟩ := markRun_ev fit.s n _ fit.n3 1 (by omega) (by omega)
  refine Ev_bind _ em ?_
  simp only [if_neg (show ¬ q < 0 by omega)]
  refine Ev_bind _ eq ?_
  simp only [if_true]
  refine Ev_bind _ eq4 ?_
  refine Ev.step (fun k => by simp only [laws_FnExactStartTasks.j1]; rw [if_neg (by simp)]) ?_
  obtain ⟨p, z0, z1, z3, eq1, ⟨hp, hp2⟩, eh⟩ := markRun_ev2 rf.s m x3 rf.n3 1 (by omega) (by omega)
  obtain ⟨z4, em4, hz4, hh4⟩ := markInt_ev x4 p (by omega) (by omega)
  have eh4 := heldInt_ev z4 p (by omega) (by omega) hh4
  rw [hz4] at eh4
  refine Ev_bind _ eq1 (Ev_bind _ em4 (Ev_bind _ eh ?_))
  simp only [if_neg (show ¬ p < 0 by omega)]
  refine Ev_bind _ eh4 ?_
  simp only [if_neg (show ¬ p + (x4.length : Int) < 0 by omega), if_true]
  refine Ev_bind _ e0 (Ev_bind _ eI (Ev_bind _ eq ?_))
  simp only [if_true]
  refine Ev_bind _ eq4 ?_
  refine Ev.step (fun k => by simp only [laws_FnExactStartTasks.j2]; rw [if_neg (by simp)]) ?_
  refine Ev_bind _ eh ?_
  simp only [if_neg (show ¬ p < 0 by omega)]
  refine Ev_bind _ eh4 ?_
  simp only [if_neg (show ¬ p + (x4.length : Int) < 0 by omega), if_true]
  exact Ev.now _
end Go.Proofs.Ytjoghfehmhapbaa.QFnExactStartTasks
