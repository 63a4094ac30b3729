/- FnExactCrashRun, plainly: both ways tell the same run; copies, marks and comparisons answer as they should. No condition. -/
import Derived.Test.YtjoghfehmhapbaaRunLibFnExactCrashRun
import Derived.Test.YtjoghfehmhapbaaStatFnExactCrashRun
set_option linter.unusedVariables false
set_option linter.unusedSimpArgs false
namespace Go.Proofs.Ytjoghfehmhapbaa.QFnExactCrashRun
open Go.RowKit Go.Proofs.YtjoghfehmhapbaaW.PrintWords Go.Proofs.Ytjoghfehmhapbaa.Opn Go.Proofs.Ytjoghfehmhapbaa.Pl

def crashJ (j : S43) : S43 := if j.f0 = 1 then ⟨0, wrap64 (j.f1 - 1)⟩ else j
theorem rd_mid (l m : List S43) (i : Nat) (hi : i < l.length) (hm : m.length = l.length) : rd_T43 (m.take i ++ l.drop i) (i : Int) = rd_T43 l (i : Int) := by
  rw [rdT43 _ i (by simp; omega), rdT43 l i hi]
  rw [List.getElem_append_right (by simp; omega)]
  simp [hm, Nat.min_eq_left (Nat.le_of_lt hi)]
noncomputable def crashRun (l0 : List S39) (l1 : List Int) (n : Int) (l3 : List S43) : List S39 × List Int × Int × List S43 := if dec_ (runP l0 l1 n l3) = true then (l0, l1, n, l3.map crashJ) else ([], [], 0, [])
theorem crash_set (l : List S43) (i : Nat) (hi : i < l.length) (c : (rd_T43 l (i : Int)).f0 = 1) : (((l.map crashJ).take i ++ l.drop i).set i ⟨0, wrap64 ((rd_T43 l (i : Int)).f1 - 1)⟩) = (l.map crashJ).take (i + 1) ++ l.drop (i + 1) := by
  have e := set_take_drop l (l.map crashJ) i (by simpa using hi) (by simp)
  rw [← e, List.getElem_map]
  congr 1
  rw [rdT43 l i hi] at c ⊢
  unfold crashJ
  rw [if_pos c]
theorem crash_stay (l : List S43) (i : Nat) (hi : i < l.length) (c : ¬ (rd_T43 l (i : Int)).f0 = 1) : ((l.map crashJ).take i ++ l.drop i) = (l.map crashJ).take (i + 1) ++ l.drop (i + 1) := by
  have h1 : i < (l.map crashJ).length := by simpa using hi
  rw [List.take_succ_eq_append_getElem h1, List.append_assoc, List.drop_eq_getElem_cons hi, List.getElem_map]
  rw [rdT43 l i hi] at c
  unfold crashJ
  rw [if_neg c]
  rfl
theorem specCrashL_ev (l0 : List S39) (l1 : List Int) (n : Int) (l3 : List S43) (h3 : l3.length ≤ 1048576) : Ev (fun k => spec_CrashRun.l0 k 0 l0 l1 n l3) (l0, l1, n, l3.map crashJ) := by
  have key := Ev_up (fun k i => spec_CrashRun.l0 k (i : Int) l0 l1 n ((l3.map crashJ).take i ++ l3.drop i)) (fun _ => (l0, l1, n, l3.map crashJ)) l3.length (by
      refine Ev.step (f := fun _ => some (l0, l1, n, l3.map crashJ)) (fun k => ?_) (Ev.now _)
      simp only [spec_CrashRun.l0]
      rw [if_neg (by simp), List.drop_length, List.append_nil, List.take_of_length_le (by simp)]) (by
      intro i hi ih
      have hlen : ((l3.map crashJ).take i ++ l3.drop i).length = l3.length := by simp; omega
      refine Ev.step (fun k => ?_) ih
      simp only [spec_CrashRun.l0]
      rw [rd_mid l3 _ i hi (by simp), if_pos (by omega), if_pos (by omega), w64 (n := (i : Int) + 1) (by omega) (by omega), Int.toNat_natCast]
      by_cases c : (rd_T43 l3 (i : Int)).f0 = 1
      · rw [if_pos c, crash_set l3 i hi c]; rfl
      · rw [if_neg c, crash_stay l3 i hi c]; rfl) 0 (Nat.zero_le _)
  simpa using key
theorem implCrashL_ev (l0 : List S39) (l1 : List Int) (n : Int) (l3 : List S43) (h3 : l3.length ≤ 1048576) : Ev (fun k => impl_CrashRun.l0 k (l3.length : Int) 0 l0 l1 n l3) (l0, l1, n, l3.map crashJ) := by
  have key := Ev_up (fun k i => impl_CrashRun.l0 k (l3.length : Int) (i : Int) l0 l1 n ((l3.map crashJ).take i ++ l3.drop i)) (fun _ => (l0, l1, n, l3.map crashJ)) l3.length (by
      refine Ev.step (f := fun _ => some (l0, l1, n, l3.map crashJ)) (fun k => ?_) (Ev.now _)
      simp only [impl_CrashRun.l0]
      rw [if_neg (by omega), List.drop_length, List.append_nil, List.take_of_length_le (by simp)]) (by
      intro i hi ih
      have hlen : ((l3.map crashJ).take i ++ l3.drop i).length = l3.length := by simp; omega
      refine Ev.step (fun k => ?_) ih
      simp only [impl_CrashRun.l0, Option.bind_some]
      rw [Int.toNat_natCast, rdJ_set _ i i _ (by omega), if_pos rfl, List.set_set, rd_mid l3 _ i hi (by simp), if_pos (by omega), if_pos (by omega), if_pos (by omega), w64 (n := (i : Int) + 1) (by omega) (by omega)]
      by_cases c : (rd_T43 l3 (i : Int)).f0 = 1
      · rw [if_pos c, crash_set l3 i hi c]; rfl
      · rw [if_neg c, crash_stay l3 i hi c]; rfl) 0 (Nat.zero_le _)
  simpa using key
theorem specCrash_ev (l0 : List S39) (l1 : List Int) (n : Int) (l3 : List S43) (h : FitsR l0 l1 l3) : Ev (fun k => spec_CrashRun.f k l0 l1 n l3) (crashRun l0 l1 n l3) := by
  unfold spec_CrashRun.f crashRun
  refine Ev_bind _ (specOkR_ev l0 l1 n l3 h) ?_
  by_cases c : dec_ (runP l0 l1 n l3) = true
  · simp only [if_pos c]
    exact Ev_bind _ (specCopyR_ev l0 l1 n l3 h) (specCrashL_ev l0 l1 n l3 h.n3)
  · simp only [if_neg c]
    exact Ev.now _
theorem implCrash_ev (l0 : List S39) (l1 : List Int) (n : Int) (l3 : List S43) (h : FitsR l0 l1 l3) : Ev (fun k => impl_CrashRun.f k l0 l1 n l3) (crashRun l0 l1 n l3) := by
  unfold impl_CrashRun.f crashRun
  refine Ev_bind _ (implOkR_ev l0 l1 n l3 h) ?_
  by_cases c : dec_ (runP l0 l1 n l3) = true
  · simp only [if_pos c]
    exact Ev_bind _ (implCopyR_ev l0 l1 n l3 h) (implCrashL_ev l0 l1 n l3 h.n3)
  · simp only [if_neg c]
    exact Ev.now _
theorem crash_fits {l0 : List S39} {l1 : List Int} {l3 : List S43} (n : Int) (h : FitsR l0 l1 l3) : FitsR (crashRun l0 l1 n l3).1 (crashRun l0 l1 n l3).2.1 (crashRun l0 l1 n l3).2.2.2 := by
  unfold crashRun
  by_cases c : dec_ (runP l0 l1 n l3) = true
  · rw [if_pos c]; exact ⟨h.s, by simpa using h.n3⟩
  · rw [if_neg c]; exact fits_none

theorem Pure.FnExactCrashRun : FnExactCrashRun_Pure := by
  intro a d n j w0 w1 w2 w3
  refine Ev.rounds (g := fun k => laws_FnExactCrashRun.f k a d n j) ?_
  unfold laws_FnExactCrashRun.f
  obtain ⟨r, hr, hc⟩ := szRun_ev a d n j w0.1 (fun i hi => (wfL_get w0 i hi).1.1) w1.1 w3.1
  refine Ev_bind _ hr ?_
  by_cases c : r < 0
  · simp only [if_pos c]; exact Ev.now _
  simp only [if_neg c]
  have sm := hc.resolve_left c
  have fit := sm.fits
  have e0 := toRun_ev n sm
  have eS := specCrash_ev _ _ n _ fit
  have eI := implCrash_ev _ _ n _ fit
  have rf := crash_fits n fit
  generalize crashRun (a.map toT) d n (j.map toJ) = X at eS eI rf
  obtain ⟨x0, x1, m, x3⟩ := X
  simp only at rf
  have eq := eqRun_ev rf.s m x3 rf.n3
  have eq0 := eqRun_ev fit.s n _ fit.n3
  refine Ev_bind _ e0 (Ev_bind _ eS (Ev_bind _ e0 (Ev_bind _ eI (Ev_bind _ eq ?_))))
  simp only [if_true]
  refine Ev_bind _ e0 (Ev_bind _ eq0 ?_)
  simp only [if_true]
  obtain ⟨q, y0, y1, y3, em, hq, _⟩ := markRun_ev fit.s n _ fit.n3 1 (by omega) (by omega)
  refine Ev_bind _ em ?_
  simp only [if_neg (show ¬ q < 0 by omega)]
  refine Ev_bind _ eq ?_
  refine Ev.step (fun k => by simp only [laws_FnExactCrashRun.j0]; rw [if_neg (by simp)]) ?_
  obtain ⟨p, z0, z1, z3, eq1, hp, eh⟩ := markRun_ev rf.s m x3 rf.n3 1 (by omega) (by omega)
  refine Ev_bind _ eq1 (Ev_bind _ eh ?_)
  simp only [if_neg (show ¬ p < 0 by omega), if_true]
  refine Ev_bind _ e0 (Ev_bind _ eI (Ev_bind _ eq ?_))
  simp only [if_true]
  refine Ev_bind _ eh ?_
  simp only [if_neg (show ¬ p < 0 by omega), if_true]
  exact Ev.now _
end Go.Proofs.Ytjoghfehmhapbaa.QFnExactCrashRun
