/- What the reference's steps leave of a run, plainly: a start, a report, a crash, a tick; a new run. -/
import Derived.Test.YtjoghfehmhapbaaRunInvDFnSuiteOnce
set_option linter.unusedVariables false
set_option linter.unusedSimpArgs false
namespace Go.Proofs.Ytjoghfehmhapbaa.QFnSuiteOnce
open Go.RowKit Go.Proofs.YtjoghfehmhapbaaW.PrintWords Go.Proofs.YtjoghfehmhapbaaW.PrintMore Go.Proofs.Ytjoghfehmhapbaa.Opn Go.Proofs.Ytjoghfehmhapbaa.Pl

theorem rd_mid (l m : List S43) (i : Nat) (hi : i < l.length) (hm : m.length = l.length) : rd_T43 (m.take i ++ l.drop i) (i : Int) = rd_T43 l (i : Int) := by
  rw [rdT43 _ i (by simp; omega), rdT43 l i hi]
  rw [List.getElem_append_right (by simp; omega)]
  simp [hm, Nat.min_eq_left (Nat.le_of_lt hi)]
noncomputable def crashRun (l0 : List S39) (l1 : List Int) (n : Int) (l3 : List S43) : List S39 × List Int × Int × List S43 := if dec_ (runP l0 l1 n l3) = true then (l0, l1, n, l3.map crashJ) else ([], [], 0, [])
theorem crash_set (l : List S43) (i : Nat) (hi : i < l.length) (c : (rd_T43 l (i : Int)).f0 = 1) : (((l.map crashJ).take i ++ l.drop i).set i ⟨0, wrap64 ((rd_T43 l (i : Int)).f1 - 1)⟩) = (l.map crashJ).take (i + 1) ++ l.drop (i + 1) := by
  have e := set_take_drop l (l.map crashJ) i (by simpa using hi) (by simp)
  rw [← e, List.getElem_map]
  congr 1
  rw [rdT43 l i hi] at c ⊢
  unfold crashJ
  rw [if_pos c]
theorem crash_stay (l : List S43) (i : Nat) (hi : i < l.length) (c : ¬ (rd_T43 l (i : Int)).f0 = 1) : ((l.map crashJ).take i ++ l.drop i) = (l.map crashJ).take (i + 1) ++ l.drop (i + 1) := by
  have h1 : i < (l.map crashJ).length := by simpa using hi
  rw [List.take_succ_eq_append_getElem h1, List.append_assoc, List.drop_eq_getElem_cons hi, List.getElem_map]
  rw [rdT43 l i hi] at c
  unfold crashJ
  rw [if_neg c]
  rfl
def repHow (l0 : List S39) (l3 : List S43) (a : Int) (ok : Bool) : Int := if ok = true then 2 else if (rd_T43 l3 (a - 1)).f1 = (rd_T39 l0 (a - 1)).f3 then 3 else 0
noncomputable def repRun (l0 : List S39) (l1 : List Int) (n : Int) (l3 : List S43) (a : Int) (ok : Bool) : List S39 × List Int × Int × List S43 × Bool :=
  if dec_ (runP l0 l1 n l3) = true then (if (1 ≤ a ∧ a ≤ (l3.length : Int)) ∧ (rd_T43 l3 (a - 1)).f0 = 1 then (l0, l1, n, l3.set (a - 1).toNat ⟨repHow l0 l3 a ok, (rd_T43 l3 (a - 1)).f1⟩, true) else (l0, l1, n, l3, false)) else ([], [], 0, [], false)
theorem suite_fits {l0 : List S39} {l1 : List Int} (hs : suiteOk l0 l1) : Fits l0 l1 := by
  refine ⟨by have := hs.1.2; omega, fun q hq => ?_, by have := hs.2.1.2; omega⟩
  have := ok_len (hs.2.2.2 q (Nat.zero_le _) hq).2 (by omega)
  have := hs.1.2
  omega
theorem specNewP_ev (l0 : List S39) (l1 : List Int) (h : Fits l0 l1) (hs : suiteOk l0 l1) : Ev (fun k => spec_NewRun.f k l0 l1) (l0, l1, 0, List.replicate l0.length z43, true) ∧ runP l0 l1 0 (List.replicate l0.length z43) := by
  have hn0 := h.n0
  refine ⟨?_, hs, by omega, by simp, fun q _ hq => ?_, fun q _ hq => ?_⟩
  · unfold spec_NewRun.f
    refine Ev_bind _ (specOk_ev l0 l1 h) ?_
    rw [dec_true hs]
    simp only [if_true]
    refine Ev_bind _ (specCopy_ev l0 l1 h) ?_
    simp only [if_pos (show (0 : Int) ≤ (l0.length : Int) by omega), Int.toNat_natCast, if_pos (show l0.length ≤ 17592186044416 by omega)]
    exact Ev.now _
  · have e : rd_T43 (List.replicate l0.length z43) (q : Int) = z43 := by rw [rdT43 _ q hq, List.getElem_replicate]
    have hm := (hs.2.2.2 q (Nat.zero_le _) (by simpa using hq)).1.2.2
    rw [jOk_iff, e]
    refine ⟨⟨by decide, ⟨by decide, by show (0 : Int) ≤ _; omega⟩, fun _ => by show (0 : Int) ≠ _; omega, fun x => absurd x (by decide), fun x => absurd rfl x⟩, fun x => absurd rfl x⟩
  · have h1 := (hs.2.2.1 q (Nat.zero_le _) hq).1
    have h2 := cntG_bd l0 (List.replicate l0.length z43) ((q : Int) + 1) (List.replicate l0.length z43).length
    by_cases cz : 0 < cntG l0 (List.replicate l0.length z43) ((q : Int) + 1) (List.replicate l0.length z43).length
    · obtain ⟨p, hp, e1, _⟩ := cntG_pos _ cz
      rw [rdT43 _ p hp, List.getElem_replicate] at e1
      exact absurd e1 (by decide)
    · omega
theorem runP_fits {l0 : List S39} {l1 : List Int} {n : Int} {l3 : List S43} (h : runP l0 l1 n l3) : FitsR l0 l1 l3 := by
  obtain ⟨hs, _, hl, _⟩ := h
  refine ⟨suite_fits hs, ?_⟩
  have := hs.1.2
  omega
end Go.Proofs.Ytjoghfehmhapbaa.QFnSuiteOnce
