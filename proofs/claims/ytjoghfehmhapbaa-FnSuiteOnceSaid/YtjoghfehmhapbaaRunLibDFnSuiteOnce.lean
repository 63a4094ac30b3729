/- Runs, plainly: sizes and copies; whether a task is free, how many run; what a good run is, asked both ways; a run's copy. No condition beside sizes. -/
import Derived.Test.YtjoghfehmhapbaaSuiteRunDFnSuiteOnce
import Derived.Test.YtjoghfehmhapbaaRunMapFnSuiteOnce
set_option linter.unusedVariables false
set_option linter.unusedSimpArgs false
namespace Go.Proofs.Ytjoghfehmhapbaa.QFnSuiteOnce
open Go.RowKit Go.Proofs.YtjoghfehmhapbaaW.PrintWords Go.Proofs.Ytjoghfehmhapbaa.Opn Go.Proofs.Ytjoghfehmhapbaa.Pl

structure FitsR (l0 : List S39) (l1 : List Int) (l3 : List S43) : Prop where
  s : Fits l0 l1
  n3 : l3.length ≤ 1048576

/-! ### is a task free -/
def freeFrom (l3 : List S43) (a : List Int) (j : Nat) : Prop := ∀ q : Nat, j ≤ q → q < a.length → (rd_T43 l3 (rd a (q : Int) - 1)).f0 = 2
theorem free_end (l3 : List S43) (a : List Int) : dec_ (freeFrom l3 a a.length) = true := dec_true (fun q h1 h2 => by omega)
theorem free_step (l3 : List S43) (a : List Int) (j : Nat) (h : (rd_T43 l3 (rd a (j : Int) - 1)).f0 = 2) : dec_ (freeFrom l3 a (j + 1)) = dec_ (freeFrom l3 a j) := dec_iff ⟨fun x q h1 h2 => by
  by_cases e : q = j
  · subst e; exact h
  · exact x q (by omega) h2, fun x q h1 h2 => x q (by omega) h2⟩
theorem implFree_ev (l0 : List S39) (l1 : List Int) (n : Int) (l3 : List S43) (i : Nat) (hi : i < l0.length) (hl : (rd_T39 l0 (i : Int)).f0.length ≤ 1048576) (h3 : l3.length ≤ 1048576) (hb : ∀ q : Nat, q < (rd_T39 l0 (i : Int)).f0.length → 1 ≤ rd (rd_T39 l0 (i : Int)).f0 (q : Int) ∧ rd (rd_T39 l0 (i : Int)).f0 (q : Int) ≤ (l3.length : Int)) :
    Ev (fun k => impl_Run_done.f k l0 l1 n l3 (i : Int)) (dec_ (freeFrom l3 (rd_T39 l0 (i : Int)).f0 0)) := by
  unfold impl_Run_done.f
  simp only [if_pos (show (0 : Int) ≤ (i : Int) by omega), if_pos (show (i : Int) < (l0.length : Int) by omega)]
  generalize (rd_T39 l0 (i : Int)).f0 = a at hl hb ⊢
  exact Ev_up (fun k j => impl_Run_done.l0 k a (a.length : Int) (j : Int) l0 l1 n l3) (fun j => dec_ (freeFrom l3 a j)) a.length (by
      rw [free_end]
      refine Ev.step (f := fun _ => some true) (fun k => ?_) (Ev.now _)
      simp only [impl_Run_done.l0]
      rw [if_neg (by omega)]) (by
      intro j hj ih
      have hbj := hb j hj
      have ew : wrap64 (rd a (j : Int) - 1) = rd a (j : Int) - 1 := w64 (by omega) (by omega)
      by_cases c : (rd_T43 l3 (rd a (j : Int) - 1)).f0 = 2
      · rw [← free_step l3 a j c]
        refine Ev.step (fun k => ?_) ih
        simp only [impl_Run_done.l0, ew]
        rw [if_pos (by omega), if_pos (by omega), if_pos (by omega), if_pos (by omega), if_pos (by omega), if_pos c, w64 (n := (j : Int) + 1) (by omega) (by omega)]
        rfl
      · rw [dec_false (fun x => c (x j (Nat.le_refl _) hj))]
        refine Ev.step (f := fun _ => some false) (fun k => ?_) (Ev.now _)
        simp only [impl_Run_done.l0, ew]
        rw [if_pos (by omega), if_pos (by omega), if_pos (by omega), if_pos (by omega), if_pos (by omega), if_neg c]) 0 (Nat.zero_le _)

/-! ### how many run -/
/-! ### a good run -/
def jOk (l0 : List S39) (l3 : List S43) (i : Nat) : Prop :=
  (0 ≤ (rd_T43 l3 (i : Int)).f0 ∧ (rd_T43 l3 (i : Int)).f0 ≤ 3) ∧ (0 ≤ (rd_T43 l3 (i : Int)).f1 ∧ (rd_T43 l3 (i : Int)).f1 ≤ (rd_T39 l0 (i : Int)).f3) ∧ ((rd_T43 l3 (i : Int)).f0 = 0 → (rd_T43 l3 (i : Int)).f1 ≠ (rd_T39 l0 (i : Int)).f3) ∧ ((rd_T43 l3 (i : Int)).f0 = 3 → (rd_T43 l3 (i : Int)).f1 = (rd_T39 l0 (i : Int)).f3) ∧
    ((rd_T43 l3 (i : Int)).f0 ≠ 0 → (rd_T43 l3 (i : Int)).f1 ≠ 0 ∧ freeFrom l3 (rd_T39 l0 (i : Int)).f0 0)
def jobsFrom (l0 : List S39) (l3 : List S43) (i : Nat) : Prop := ∀ q : Nat, i ≤ q → q < l3.length → jOk l0 l3 q
def limFrom (l0 : List S39) (l1 : List Int) (l3 : List S43) (i : Nat) : Prop := ∀ q : Nat, i ≤ q → q < l1.length → cntG l0 l3 ((q : Int) + 1) l3.length ≤ rd l1 (q : Int)
def runP (l0 : List S39) (l1 : List Int) (n : Int) (l3 : List S43) : Prop := suiteOk l0 l1 ∧ (0 ≤ n ∧ n ≤ 1000000000000) ∧ l3.length = l0.length ∧ jobsFrom l0 l3 0 ∧ limFrom l0 l1 l3 0
theorem jobs_step (l0 : List S39) (l3 : List S43) (R : Prop) (i : Nat) (hi : i < l3.length) : dec_ (jobsFrom l0 l3 i ∧ R) = dec_ (jOk l0 l3 i ∧ jobsFrom l0 l3 (i + 1) ∧ R) := dec_iff ⟨fun x => ⟨x.1 i (Nat.le_refl _) hi, fun q h1 h2 => x.1 q (by omega) h2, x.2⟩, fun x => ⟨fun q h1 h2 => by
  by_cases e : q = i
  · subst e; exact x.1
  · exact x.2.1 q (by omega) h2, x.2.2⟩⟩
theorem jobs_end (l0 : List S39) (l3 : List S43) (R : Prop) : dec_ (jobsFrom l0 l3 l3.length ∧ R) = dec_ R := dec_iff ⟨fun x => x.2, fun x => ⟨fun q h1 h2 => by omega, x⟩⟩
theorem after_bd {l0 : List S39} {l1 : List Int} {l3 : List S43} (hs : suiteOk l0 l1) (hl : l3.length = l0.length) (i : Nat) (hi : i < l3.length) : ∀ q : Nat, q < (rd_T39 l0 (i : Int)).f0.length → 1 ≤ rd (rd_T39 l0 (i : Int)).f0 (q : Int) ∧ rd (rd_T39 l0 (i : Int)).f0 (q : Int) ≤ (l3.length : Int) := by
  intro q hq
  have := ((hs.2.2.2 i (Nat.zero_le _) (by omega)).2 q (Nat.zero_le _) hq).1
  omega
/-! ### the same of the program -/
theorem implLim {l0 : List S39} {l1 : List Int} {l3 : List S43} (k : Nat) (n : Int) (h : FitsR l0 l1 l3) (hs : suiteOk l0 l1) (hl : l3.length = l0.length) : impl_Run_running.f k l0 l1 n l3 = some (dec_ (limFrom l0 l1 l3 0)) := by
  have hg : ∀ q : Nat, q < l3.length → 1 ≤ (rd_T39 l0 (q : Int)).f1 ∧ (rd_T39 l0 (q : Int)).f1 ≤ (l1.length : Int) := fun q hq => (hs.2.2.2 q (Nat.zero_le _) (by omega)).1.1
  unfold impl_Run_running.f
  rw [if_pos ⟨⟨by omega, h.n3, h.s.n2⟩, fun q hq _ => hg q (List.mem_range.mp hq)⟩]
  refine congrArg some ?_
  by_cases c : limFrom l0 l1 l3 0
  · rw [dec_true c]
    refine decide_eq_true (fun q hq _ => ?_)
    have hq := List.mem_range.mp hq
    have hb := hg q hq
    have := c ((rd_T39 l0 (q : Int)).f1 - 1).toNat (Nat.zero_le _) (by omega)
    rw [show (((rd_T39 l0 (q : Int)).f1 - 1).toNat : Int) = (rd_T39 l0 (q : Int)).f1 - 1 by omega, show (rd_T39 l0 (q : Int)).f1 - 1 + 1 = (rd_T39 l0 (q : Int)).f1 by omega] at this
    exact this
  · rw [dec_false c]
    refine decide_eq_false (fun x => c (fun g _ hgl => ?_))
    have hbd := cntG_bd l0 l3 ((g : Int) + 1) l3.length
    by_cases cz : 0 < cntG l0 l3 ((g : Int) + 1) l3.length
    · obtain ⟨q, hq, h1, h2⟩ := cntG_pos _ cz
      have := x q (List.mem_range.mpr hq) h1
      rw [h2, show (g : Int) + 1 - 1 = (g : Int) by omega] at this
      exact this
    · have := (hs.2.2.1 g (Nat.zero_le _) hgl).1
      omega
theorem implJobs_ev (l0 : List S39) (l1 : List Int) (n : Int) (l3 : List S43) (hl : l3.length = l0.length) (h : FitsR l0 l1 l3) (hs : suiteOk l0 l1) : Ev (fun k => impl_runOk.l0 k l3 (l3.length : Int) 0 l0 l1 n l3) (dec_ (jobsFrom l0 l3 0 ∧ limFrom l0 l1 l3 0)) := by
  have hn3 := h.n3
  exact Ev_up (fun k i => impl_runOk.l0 k l3 (l3.length : Int) (i : Int) l0 l1 n l3) (fun i => dec_ (jobsFrom l0 l3 i ∧ limFrom l0 l1 l3 0)) l3.length (by
      rw [jobs_end]
      refine Ev.step (f := fun _ => some (dec_ (limFrom l0 l1 l3 0))) (fun k => ?_) (Ev.now _)
      simp only [impl_runOk.l0]
      rw [if_neg (by omega), implLim k n h hs hl, Option.bind_some]
      cases dec_ (limFrom l0 l1 l3 0) <;> rfl) (by
      intro i hi ih
      rw [jobs_step _ _ _ i hi]
      have hf := implFree_ev l0 l1 n l3 i (by omega) (h.s.n1 i (by omega)) h.n3 (after_bd hs hl i hi)
      have ew : wrap64 ((i : Int) + 1) = ((i + 1 : Nat) : Int) := by rw [w64 (by omega) (by omega)]; rfl
      unfold jOk
      generalize (jobsFrom l0 l3 (i + 1) ∧ limFrom l0 l1 l3 0) = T at ih ⊢
      refine Ev.step (f := fun k => if 0 ≤ (rd_T43 l3 (i : Int)).f0 ∧ (rd_T43 l3 (i : Int)).f0 ≤ 3 then (if 0 ≤ (rd_T43 l3 (i : Int)).f1 ∧ (rd_T43 l3 (i : Int)).f1 ≤ (rd_T39 l0 (i : Int)).f3 then (if (rd_T43 l3 (i : Int)).f0 = 0 then (if (rd_T43 l3 (i : Int)).f1 = (rd_T39 l0 (i : Int)).f3 then some false else impl_runOk.l0 k l3 (l3.length : Int) ((i + 1 : Nat) : Int) l0 l1 n l3) else
        (if (rd_T43 l3 (i : Int)).f1 = 0 then some false else ((impl_Run_done.f k l0 l1 n l3 (i : Int)).bind fun t => if t = true then (if (rd_T43 l3 (i : Int)).f0 = 3 then (if (rd_T43 l3 (i : Int)).f1 = (rd_T39 l0 (i : Int)).f3 then impl_runOk.l0 k l3 (l3.length : Int) ((i + 1 : Nat) : Int) l0 l1 n l3 else some false) else impl_runOk.l0 k l3 (l3.length : Int) ((i + 1 : Nat) : Int) l0 l1 n l3) else some false))) else some false) else some false) (fun k => ?_) ?_
      · simp only [impl_runOk.l0, implIn, ew]
        rw [if_pos (by omega), if_pos (by omega), if_pos (by omega), if_pos (by omega), Option.bind_some, Option.bind_some]
        by_cases c1 : 0 ≤ (rd_T43 l3 (i : Int)).f0 ∧ (rd_T43 l3 (i : Int)).f0 ≤ 3
        · rw [if_pos c1, decide_eq_true c1, if_pos rfl]
          by_cases c2 : 0 ≤ (rd_T43 l3 (i : Int)).f1 ∧ (rd_T43 l3 (i : Int)).f1 ≤ (rd_T39 l0 (i : Int)).f3
          · rw [if_pos c2, decide_eq_true c2, if_pos rfl]
            by_cases c0 : (rd_T43 l3 (i : Int)).f0 = 0
            · rw [if_pos c0, if_pos c0, if_neg (show ¬ (rd_T43 l3 (i : Int)).f0 = 3 by omega)]
            · rw [if_neg c0, if_neg c0]
          · rw [if_neg c2, decide_eq_false c2]
            rfl
        · rw [if_neg c1, decide_eq_false c1]
          rfl
      generalize (rd_T39 l0 (i : Int)).f3 = most
      generalize (rd_T43 l3 (i : Int)).f0 = how
      generalize (rd_T43 l3 (i : Int)).f1 = tries
      generalize freeFrom l3 (rd_T39 l0 (i : Int)).f0 0 = F at hf ⊢
      by_cases c1 : 0 ≤ how ∧ how ≤ 3
      · simp only [if_pos c1]
        by_cases c2 : 0 ≤ tries ∧ tries ≤ most
        · simp only [if_pos c2]
          by_cases c0 : how = 0
          · simp only [if_pos c0]
            by_cases c3 : tries = most
            · rw [dec_false (fun x => x.1.2.2.1 c0 c3)]
              simp only [if_pos c3]
              exact Ev.now _
            · rw [dec_iff (q := T) ⟨fun x => x.2, fun x => ⟨⟨c1, c2, fun _ => c3, fun y => absurd y (by omega), fun y => absurd c0 y⟩, x⟩⟩]
              simp only [if_neg c3]
              exact ih
          · simp only [if_neg c0]
            by_cases c4 : tries = 0
            · rw [dec_false (fun x => (x.1.2.2.2.2 c0).1 c4)]
              simp only [if_pos c4]
              exact Ev.now _
            · simp only [if_neg c4]
              refine Ev_bind _ hf ?_
              by_cases c5 : F
              · rw [dec_true c5]
                simp only [if_true]
                by_cases c6 : how = 3
                · simp only [if_pos c6]
                  by_cases c3 : tries = most
                  · rw [dec_iff (q := T) ⟨fun x => x.2, fun x => ⟨⟨c1, c2, fun y => absurd y c0, fun _ => c3, fun _ => ⟨c4, c5⟩⟩, x⟩⟩]
                    simp only [if_pos c3]
                    exact ih
                  · rw [dec_false (fun x => c3 (x.1.2.2.2.1 c6))]
                    simp only [if_neg c3]
                    exact Ev.now _
                · rw [dec_iff (q := T) ⟨fun x => x.2, fun x => ⟨⟨c1, c2, fun y => absurd y c0, fun y => absurd y c6, fun _ => ⟨c4, c5⟩⟩, x⟩⟩]
                  simp only [if_neg c6]
                  exact ih
              · rw [dec_false c5, dec_false (fun x => c5 (x.1.2.2.2.2 c0).2)]
                simp only [Bool.false_eq_true, if_false]
                exact Ev.now _
        · rw [dec_false (fun x => c2 x.1.2.1)]
          simp only [if_neg c2]
          exact Ev.now _
      · rw [dec_false (fun x => c1 x.1.1)]
        simp only [if_neg c1]
        exact Ev.now _) 0 (Nat.zero_le _)
theorem implOkR_ev (l0 : List S39) (l1 : List Int) (n : Int) (l3 : List S43) (h : FitsR l0 l1 l3) : Ev (fun k => impl_runOk.f k l0 l1 n l3) (dec_ (runP l0 l1 n l3)) := by
  have bad : Ev (fun k => impl_runOk.j0 k true l0 l1 n l3) false := Ev.step (f := fun _ => some false) (fun k => by simp only [impl_runOk.j0, if_true]) (Ev.now _)
  unfold impl_runOk.f
  refine Ev_bind _ (implOk_ev l0 l1 h.s) ?_
  by_cases c1 : suiteOk l0 l1
  · rw [dec_true c1]
    simp only [if_true, implIn, Option.bind_some]
    by_cases c2 : 0 ≤ n ∧ n ≤ 1000000000000
    · simp only [decide_eq_true c2, if_true]
      by_cases c3 : l3.length = l0.length
      · rw [show ((l3.length : Int) != (l0.length : Int)) = false by rw [c3]; simp]
        rw [dec_iff (show runP l0 l1 n l3 ↔ (jobsFrom l0 l3 0 ∧ limFrom l0 l1 l3 0) from ⟨fun x => x.2.2.2, fun x => ⟨c1, c2, c3, x⟩⟩)]
        refine Ev.step (fun k => ?_) (implJobs_ev l0 l1 n l3 c3 h c1)
        simp only [impl_runOk.j0, Bool.false_eq_true, if_false]
      · rw [show ((l3.length : Int) != (l0.length : Int)) = true from bne_iff_ne.mpr (fun e => c3 (by omega)), dec_false (fun x => c3 x.2.2.1)]
        exact bad
    · simp only [decide_eq_false c2, Bool.false_eq_true, if_false]
      rw [dec_false (fun x => c2 x.2.1)]
      exact bad
  · rw [dec_false c1, dec_false (fun x => c1 x.1)]
    simp only [Bool.false_eq_true, if_false]
    exact bad

/-! ### a run's copy -/
theorem implCopyR_ev (l0 : List S39) (l1 : List Int) (n : Int) (l3 : List S43) (h : FitsR l0 l1 l3) : Ev (fun k => impl_copyRun.f k l0 l1 n l3) (l0, l1, n, l3) := by
  have hn3 := h.n3
  unfold impl_copyRun.f impl_Job.f
  refine Ev_bind _ (implCopy_ev l0 l1 h.s) ?_
  simp only [if_pos (show l3.length < 8796093022208 by omega), Option.bind_some]
  exact Ev.now _
end Go.Proofs.Ytjoghfehmhapbaa.QFnSuiteOnce
