/- Two texts in one file (merge.py). -/
import Derived.Test.YtjoghfehmhapbaaRunLibDFnReportsAnyway
/- Runs, plainly: what a start, a report, a crash and a tick leave is a good run again. -/
set_option linter.unusedVariables false
set_option linter.unusedSimpArgs false
namespace Go.Proofs.Ytjoghfehmhapbaa.QFnReportsAnyway
open Go.RowKit Go.Proofs.YtjoghfehmhapbaaW.PrintWords Go.Proofs.YtjoghfehmhapbaaW.PrintMore Go.Proofs.Ytjoghfehmhapbaa.Opn Go.Proofs.Ytjoghfehmhapbaa.Pl

def jVal (most : Int) (v : S43) : Prop := (0 ≤ v.f0 ∧ v.f0 ≤ 3) ∧ (0 ≤ v.f1 ∧ v.f1 ≤ most) ∧ (v.f0 = 0 → v.f1 ≠ most) ∧ (v.f0 = 3 → v.f1 = most) ∧ (v.f0 ≠ 0 → v.f1 ≠ 0)
theorem jOk_iff (l0 : List S39) (l3 : List S43) (i : Nat) : jOk l0 l3 i ↔ jVal (rd_T39 l0 (i : Int)).f3 (rd_T43 l3 (i : Int)) ∧ ((rd_T43 l3 (i : Int)).f0 ≠ 0 → freeFrom l3 (rd_T39 l0 (i : Int)).f0 0) := by
  unfold jOk jVal
  constructor
  · rintro ⟨a, b, c, d, e⟩
    exact ⟨⟨a, b, c, d, fun x => (e x).1⟩, fun x => (e x).2⟩
  · rintro ⟨⟨a, b, c, d, e⟩, f⟩
    exact ⟨a, b, c, d, fun x => ⟨e x, f x⟩⟩
theorem after_at {l0 : List S39} {l1 : List Int} {l3 : List S43} (hs : suiteOk l0 l1) (hl : l3.length = l0.length) (i : Nat) (hi : i < l3.length) (q : Nat) (hq : q < (rd_T39 l0 (i : Int)).f0.length) : ∃ p : Nat, rd (rd_T39 l0 (i : Int)).f0 (q : Int) - 1 = (p : Int) ∧ p < i := by
  have := ((hs.2.2.2 i (Nat.zero_le _) (by omega)).2 q (Nat.zero_le _) hq).1
  exact ⟨(rd (rd_T39 l0 (i : Int)).f0 (q : Int) - 1).toNat, by omega, by omega⟩
theorem jobs_upd {l0 : List S39} {l1 : List Int} {l3 : List S43} (hs : suiteOk l0 l1) (hl : l3.length = l0.length) (hj : jobsFrom l0 l3 0) (i : Nat) (hi : i < l3.length) (h2 : (rd_T43 l3 (i : Int)).f0 ≠ 2) (v : S43) (hv : jVal (rd_T39 l0 (i : Int)).f3 v) (hf : v.f0 ≠ 0 → freeFrom l3 (rd_T39 l0 (i : Int)).f0 0) : jobsFrom l0 (l3.set i v) 0 := by
  intro q _ hq
  have hq' : q < l3.length := by simpa using hq
  have keep : freeFrom l3 (rd_T39 l0 (q : Int)).f0 0 → freeFrom (l3.set i v) (rd_T39 l0 (q : Int)).f0 0 := by
    intro h x h1 hx
    obtain ⟨p, hp, hpq⟩ := after_at hs hl q hq' x hx
    have e := h x h1 hx
    rw [hp] at e ⊢
    rw [rdJ_set l3 i p v (by omega)]
    by_cases c : i = p
    · subst c; exact absurd e h2
    · rw [if_neg c]; exact e
  rw [jOk_iff]
  have ho := (jOk_iff l0 l3 q).mp (hj q (Nat.zero_le _) hq')
  rw [rdJ_set l3 i q v hq']
  by_cases c : i = q
  · subst c
    rw [if_pos rfl]
    exact ⟨hv, fun x => keep (hf x)⟩
  · rw [if_neg c]
    exact ⟨ho.1, fun x => keep (ho.2 x)⟩
theorem cnt_upd (l0 : List S39) (l3 : List S43) (g : Int) (i : Nat) (v : S43) (hi : i < l3.length) : ∀ n : Nat, n ≤ l3.length →
    cntG l0 (l3.set i v) g n = cntG l0 l3 g n + (if i < n then (if v.f0 = 1 ∧ (rd_T39 l0 (i : Int)).f1 = g then 1 else 0) - (if (rd_T43 l3 (i : Int)).f0 = 1 ∧ (rd_T39 l0 (i : Int)).f1 = g then 1 else 0) else 0) := by
  intro n
  induction n with
  | zero => intro _; simp [cntG]
  | succ n ih =>
    intro hn
    simp only [cntG]
    rw [ih (by omega), rdJ_set l3 i n v (by omega)]
    by_cases c : i = n
    · subst c
      rw [if_pos rfl, if_neg (Nat.lt_irrefl _), if_pos (Nat.lt_succ_self _)]
      omega
    · rw [if_neg c]
      by_cases c2 : i < n
      · rw [if_pos c2, if_pos (show i < n + 1 by omega)]; omega
      · rw [if_neg c2, if_neg (show ¬ i < n + 1 by omega)]; omega
theorem runP_upd {l0 : List S39} {l1 : List Int} {n : Int} {l3 : List S43} (h : runP l0 l1 n l3) (i : Nat) (hi : i < l3.length) (h2 : (rd_T43 l3 (i : Int)).f0 ≠ 2) (v : S43) (hv : jVal (rd_T39 l0 (i : Int)).f3 v) (hf : v.f0 ≠ 0 → freeFrom l3 (rd_T39 l0 (i : Int)).f0 0)
    (hc : v.f0 = 1 → (rd_T43 l3 (i : Int)).f0 = 1 ∨ cntG l0 l3 (rd_T39 l0 (i : Int)).f1 l3.length < rd l1 ((rd_T39 l0 (i : Int)).f1 - 1)) : runP l0 l1 n (l3.set i v) := by
  obtain ⟨hs, hn, hl, hj, hm⟩ := h
  refine ⟨hs, hn, by simpa using hl, jobs_upd hs hl hj i hi h2 v hv hf, fun q _ hq => ?_⟩
  have hm := hm q (Nat.zero_le _) hq
  rw [List.length_set, cnt_upd l0 l3 _ i v hi _ (Nat.le_refl _), if_pos hi]
  by_cases c : v.f0 = 1 ∧ (rd_T39 l0 (i : Int)).f1 = (q : Int) + 1
  · rw [if_pos c]
    rcases hc c.1 with ho | ho
    · rw [if_pos ⟨ho, c.2⟩]; omega
    · rw [c.2, show (q : Int) + 1 - 1 = (q : Int) by omega] at ho
      split <;> omega
  · rw [if_neg c]
    split <;> omega
theorem runP_now {l0 : List S39} {l1 : List Int} {n m : Int} {l3 : List S43} (h : runP l0 l1 n l3) (hm : 0 ≤ m ∧ m ≤ 1000000000000) : runP l0 l1 m l3 := ⟨h.1, hm, h.2.2⟩
theorem runP_start {l0 : List S39} {l1 : List Int} {n : Int} {l3 : List S43} (h : runP l0 l1 n l3) (i : Nat) (hi : i < l3.length) (h0 : (rd_T43 l3 (i : Int)).f0 = 0) (hf : freeFrom l3 (rd_T39 l0 (i : Int)).f0 0) (hc : cntG l0 l3 (rd_T39 l0 (i : Int)).f1 l3.length < rd l1 ((rd_T39 l0 (i : Int)).f1 - 1)) :
    runP l0 l1 n (l3.set i ⟨1, (rd_T43 l3 (i : Int)).f1 + 1⟩) := by
  have ho := ((jOk_iff l0 l3 i).mp (h.2.2.2.1 i (Nat.zero_le _) hi)).1
  refine runP_upd h i hi (by omega) _ ⟨⟨by simp, by simp⟩, ?_, fun x => absurd x (by simp), fun x => absurd x (by simp), fun _ => ?_⟩ (fun _ => hf) (fun _ => .inr hc)
  · have := ho.2.2.1 h0
    have := ho.2.1
    show 0 ≤ (rd_T43 l3 (i : Int)).f1 + 1 ∧ (rd_T43 l3 (i : Int)).f1 + 1 ≤ _
    omega
  · have := ho.2.1
    show (rd_T43 l3 (i : Int)).f1 + 1 ≠ 0
    omega
theorem runP_report {l0 : List S39} {l1 : List Int} {n : Int} {l3 : List S43} (h : runP l0 l1 n l3) (i : Nat) (hi : i < l3.length) (h1 : (rd_T43 l3 (i : Int)).f0 = 1) (w : Int) (hw : w = 2 ∨ (w = 3 ∧ (rd_T43 l3 (i : Int)).f1 = (rd_T39 l0 (i : Int)).f3) ∨ (w = 0 ∧ (rd_T43 l3 (i : Int)).f1 ≠ (rd_T39 l0 (i : Int)).f3)) :
    runP l0 l1 n (l3.set i ⟨w, (rd_T43 l3 (i : Int)).f1⟩) := by
  have ho := (jOk_iff l0 l3 i).mp (h.2.2.2.1 i (Nat.zero_le _) hi)
  refine runP_upd h i hi (by omega) _ ⟨⟨by show 0 ≤ w; omega, by show w ≤ 3; omega⟩, ho.1.2.1, fun x => ?_, fun x => ?_, fun _ => ho.1.2.2.2.2 (by omega)⟩ (fun _ => ho.2 (by omega)) (fun x => ?_)
  · have x : w = 0 := x
    show (rd_T43 l3 (i : Int)).f1 ≠ _
    omega
  · have x : w = 3 := x
    show (rd_T43 l3 (i : Int)).f1 = _
    omega
  · have x : w = 1 := x
    omega
def crashJ (j : S43) : S43 := if j.f0 = 1 then ⟨0, wrap64 (j.f1 - 1)⟩ else j
theorem rd_crash (l : List S43) (i : Nat) (hi : i < l.length) : rd_T43 (l.map crashJ) (i : Int) = crashJ (rd_T43 l (i : Int)) := by
  rw [rdT43 _ i (by simpa using hi), rdT43 l i hi, List.getElem_map]
theorem crash2 (j : S43) : (crashJ j).f0 = 2 ↔ j.f0 = 2 := by
  unfold crashJ
  by_cases c : j.f0 = 1
  · rw [if_pos c]; constructor <;> intro h
    · exact absurd h (by simp)
    · omega
  · rw [if_neg c]
theorem crash_ne (j : S43) : (crashJ j).f0 ≠ 1 := by
  unfold crashJ
  by_cases c : j.f0 = 1
  · rw [if_pos c]; simp
  · rw [if_neg c]; exact c
theorem crash_val {most : Int} {j : S43} (hm : most ≤ 5) (h : jVal most j) : jVal most (crashJ j) := by
  unfold crashJ
  by_cases c : j.f0 = 1
  · rw [if_pos c]
    obtain ⟨a, b, _, _, e⟩ := h
    have e := e (by omega)
    have ew : wrap64 (j.f1 - 1) = j.f1 - 1 := w64 (by omega) (by omega)
    rw [ew]
    refine ⟨⟨by simp, by simp⟩, ⟨by show 0 ≤ j.f1 - 1; omega, by show j.f1 - 1 ≤ most; omega⟩, fun _ => by show j.f1 - 1 ≠ most; omega, fun x => absurd x (by simp), fun x => absurd rfl x⟩
  · rw [if_neg c]; exact h
theorem runP_crash {l0 : List S39} {l1 : List Int} {n : Int} {l3 : List S43} (h : runP l0 l1 n l3) : runP l0 l1 n (l3.map crashJ) := by
  obtain ⟨hs, hn, hl, hj, hm⟩ := h
  refine ⟨hs, hn, by simpa using hl, fun q _ hq => ?_, fun q _ hq => ?_⟩
  · have hq' : q < l3.length := by simpa using hq
    have ho := (jOk_iff l0 l3 q).mp (hj q (Nat.zero_le _) hq')
    have ha := (hs.2.2.2 q (Nat.zero_le _) (by omega)).1
    rw [jOk_iff, rd_crash l3 q hq']
    refine ⟨crash_val ha.2.2.2 ho.1, fun x => ?_⟩
    have x' : (rd_T43 l3 (q : Int)).f0 ≠ 0 := by
      intro e
      unfold crashJ at x
      rw [if_neg (by omega)] at x
      exact x e
    intro y h1 hy
    obtain ⟨p, hp, hpq⟩ := after_at hs hl q hq' y hy
    have e := ho.2 x' y h1 hy
    rw [hp] at e ⊢
    rw [rd_crash l3 p (by omega)]
    exact (crash2 _).mpr e
  · have h1 := (hs.2.2.1 q (Nat.zero_le _) hq).1
    have h2 := cntG_bd l0 (l3.map crashJ) ((q : Int) + 1) (l3.map crashJ).length
    by_cases cz : 0 < cntG l0 (l3.map crashJ) ((q : Int) + 1) (l3.map crashJ).length
    · obtain ⟨p, hp, e1, _⟩ := cntG_pos _ cz
      rw [rd_crash l3 p (by simpa using hp)] at e1
      exact absurd e1 (crash_ne _)
    · omega
end Go.Proofs.Ytjoghfehmhapbaa.QFnReportsAnyway

/- What the reference's steps leave of a run, plainly: a start, a report, a crash, a tick; a new run. -/
set_option linter.unusedVariables false
set_option linter.unusedSimpArgs false
namespace Go.Proofs.Ytjoghfehmhapbaa.QFnReportsAnyway
open Go.RowKit Go.Proofs.YtjoghfehmhapbaaW.PrintWords Go.Proofs.YtjoghfehmhapbaaW.PrintMore Go.Proofs.Ytjoghfehmhapbaa.Opn Go.Proofs.Ytjoghfehmhapbaa.Pl

theorem rd_mid (l m : List S43) (i : Nat) (hi : i < l.length) (hm : m.length = l.length) : rd_T43 (m.take i ++ l.drop i) (i : Int) = rd_T43 l (i : Int) := by
  rw [rdT43 _ i (by simp; omega), rdT43 l i hi]
  rw [List.getElem_append_right (by simp; omega)]
  simp [hm, Nat.min_eq_left (Nat.le_of_lt hi)]
noncomputable def crashRun (l0 : List S39) (l1 : List Int) (n : Int) (l3 : List S43) : List S39 × List Int × Int × List S43 := if dec_ (runP l0 l1 n l3) = true then (l0, l1, n, l3.map crashJ) else ([], [], 0, [])
theorem crash_set (l : List S43) (i : Nat) (hi : i < l.length) (c : (rd_T43 l (i : Int)).f0 = 1) : (((l.map crashJ).take i ++ l.drop i).set i ⟨0, wrap64 ((rd_T43 l (i : Int)).f1 - 1)⟩) = (l.map crashJ).take (i + 1) ++ l.drop (i + 1) := by
  have e := set_take_drop l (l.map crashJ) i (by simpa using hi) (by simp)
  rw [← e, List.getElem_map]
  congr 1
  rw [rdT43 l i hi] at c ⊢
  unfold crashJ
  rw [if_pos c]
theorem crash_stay (l : List S43) (i : Nat) (hi : i < l.length) (c : ¬ (rd_T43 l (i : Int)).f0 = 1) : ((l.map crashJ).take i ++ l.drop i) = (l.map crashJ).take (i + 1) ++ l.drop (i + 1) := by
  have h1 : i < (l.map crashJ).length := by simpa using hi
  rw [List.take_succ_eq_append_getElem h1, List.append_assoc, List.drop_eq_getElem_cons hi, List.getElem_map]
  rw [rdT43 l i hi] at c
  unfold crashJ
  rw [if_neg c]
  rfl
theorem specCrashL_ev (l0 : List S39) (l1 : List Int) (n : Int) (l3 : List S43) (h3 : l3.length ≤ 1048576) : Ev (fun k => spec_CrashRun.l0 k 0 l0 l1 n l3) (l0, l1, n, l3.map crashJ) := by
  have key := Ev_up (fun k i => spec_CrashRun.l0 k (i : Int) l0 l1 n ((l3.map crashJ).take i ++ l3.drop i)) (fun _ => (l0, l1, n, l3.map crashJ)) l3.length (by
      refine Ev.step (f := fun _ => some (l0, l1, n, l3.map crashJ)) (fun k => ?_) (Ev.now _)
      simp only [spec_CrashRun.l0]
      rw [if_neg (by simp), List.drop_length, List.append_nil, List.take_of_length_le (by simp)]) (by
      intro i hi ih
      have hlen : ((l3.map crashJ).take i ++ l3.drop i).length = l3.length := by simp; omega
      refine Ev.step (fun k => ?_) ih
      simp only [spec_CrashRun.l0]
      rw [rd_mid l3 _ i hi (by simp), if_pos (by omega), if_pos (by omega), w64 (n := (i : Int) + 1) (by omega) (by omega), Int.toNat_natCast]
      by_cases c : (rd_T43 l3 (i : Int)).f0 = 1
      · rw [if_pos c, crash_set l3 i hi c]; rfl
      · rw [if_neg c, crash_stay l3 i hi c]; rfl) 0 (Nat.zero_le _)
  simpa using key
theorem specCrash_ev (l0 : List S39) (l1 : List Int) (n : Int) (l3 : List S43) (h : FitsR l0 l1 l3) : Ev (fun k => spec_CrashRun.f k l0 l1 n l3) (crashRun l0 l1 n l3) := by
  unfold spec_CrashRun.f crashRun
  refine Ev_bind _ (specOkR_ev l0 l1 n l3 h) ?_
  by_cases c : dec_ (runP l0 l1 n l3) = true
  · simp only [if_pos c]
    exact Ev_bind _ (specCopyR_ev l0 l1 n l3 h) (specCrashL_ev l0 l1 n l3 h.n3)
  · simp only [if_neg c]
    exact Ev.now _
def repHow (l0 : List S39) (l3 : List S43) (a : Int) (ok : Bool) : Int := if ok = true then 2 else if (rd_T43 l3 (a - 1)).f1 = (rd_T39 l0 (a - 1)).f3 then 3 else 0
noncomputable def repRun (l0 : List S39) (l1 : List Int) (n : Int) (l3 : List S43) (a : Int) (ok : Bool) : List S39 × List Int × Int × List S43 × Bool :=
  if dec_ (runP l0 l1 n l3) = true then (if (1 ≤ a ∧ a ≤ (l3.length : Int)) ∧ (rd_T43 l3 (a - 1)).f0 = 1 then (l0, l1, n, l3.set (a - 1).toNat ⟨repHow l0 l3 a ok, (rd_T43 l3 (a - 1)).f1⟩, true) else (l0, l1, n, l3, false)) else ([], [], 0, [], false)
theorem specRep_ev (l0 : List S39) (l1 : List Int) (n : Int) (l3 : List S43) (a : Int) (ok : Bool) (h : FitsR l0 l1 l3) : Ev (fun k => spec_Report.f k l0 l1 n l3 a ok) (repRun l0 l1 n l3 a ok) := by
  have bad : Ev (fun k => spec_Report.j0 k a ok true l0 l1 n l3) (l0, l1, n, l3, false) := Ev.step (f := fun _ => some (l0, l1, n, l3, false)) (fun k => by simp only [spec_Report.j0, if_true]) (Ev.now _)
  have hn3 := h.n3
  unfold spec_Report.f repRun
  refine Ev_bind _ (specOkR_ev l0 l1 n l3 h) ?_
  by_cases c : runP l0 l1 n l3
  · rw [dec_true c]
    simp only [if_true]
    refine Ev_bind _ (specCopyR_ev l0 l1 n l3 h) ?_
    simp only [specIn, Option.bind_some]
    by_cases c1 : 1 ≤ a ∧ a ≤ (l3.length : Int)
    · have ew : wrap64 (a - 1) = a - 1 := w64 (by omega) (by omega)
      simp only [decide_eq_true c1, if_true, ew, if_pos (show 0 ≤ a - 1 by omega), if_pos (show a - 1 < (l3.length : Int) by omega)]
      by_cases c2 : (rd_T43 l3 (a - 1)).f0 = 1
      · rw [if_pos ⟨c1, c2⟩, show ((rd_T43 l3 (a - 1)).f0 != 1) = false from bne_eq_false_iff_eq.mpr c2]
        refine Ev.step (f := fun _ => some (l0, l1, n, l3.set (a - 1).toNat ⟨repHow l0 l3 a ok, (rd_T43 l3 (a - 1)).f1⟩, true)) (fun k => ?_) (Ev.now _)
        have hl := c.2.2.1
        simp only [spec_Report.j0, Bool.false_eq_true, if_false, ew, if_pos (show 0 ≤ a - 1 by omega), if_pos (show a - 1 < (l3.length : Int) by omega), if_pos (show a - 1 < (l0.length : Int) by omega), repHow]
        by_cases c3 : ok = true
        · rw [if_pos c3, if_pos c3]
        · rw [if_neg c3, if_neg c3]
          by_cases c4 : (rd_T43 l3 (a - 1)).f1 = (rd_T39 l0 (a - 1)).f3
          · rw [if_pos c4, if_pos c4]
          · rw [if_neg c4, if_neg c4]
      · rw [if_neg (fun x => c2 x.2), show ((rd_T43 l3 (a - 1)).f0 != 1) = true from bne_iff_ne.mpr c2]
        exact bad
    · rw [if_neg (fun x => c1 x.1)]
      simp only [decide_eq_false c1, Bool.false_eq_true, if_false]
      exact bad
  · rw [dec_false c]
    simp only [Bool.false_eq_true, if_false]
    exact Ev.now _
def isLate (l0 : List S39) (l3 : List S43) (n m : Int) (i : Nat) : Prop := (rd_T39 l0 (i : Int)).f2 > 0 ∧ ¬ (rd_T43 l3 (i : Int)).f0 = 2 ∧ (rd_T39 l0 (i : Int)).f2 ≥ n ∧ (rd_T39 l0 (i : Int)).f2 < m
noncomputable def lateL (l0 : List S39) (l3 : List S43) (n m : Int) : Nat → List Int
  | 0 => []
  | i + 1 => lateL l0 l3 n m i ++ (if dec_ (isLate l0 l3 n m i) = true then [(i : Int) + 1] else [])
theorem late_len (l0 : List S39) (l3 : List S43) (n m : Int) : ∀ i, (lateL l0 l3 n m i).length ≤ i := by
  intro i
  induction i with
  | zero => exact Nat.le_refl _
  | succ i ih =>
    simp only [lateL, List.length_append]
    split <;> simp <;> omega
theorem specLate_ev (l0 : List S39) (l1 : List Int) (n m : Int) (l3 : List S43) (h : FitsR l0 l1 l3) (hl : l3.length = l0.length) : Ev (fun k => spec_TickRun.l0 k [] 0 l0 l1 n l3 l0 l1 m l3) (l0, l1, m, l3, lateL l0 l3 n m l3.length) := by
  have hn3 := h.n3
  have key := Ev_up (fun k i => spec_TickRun.l0 k (lateL l0 l3 n m i) (i : Int) l0 l1 n l3 l0 l1 m l3) (fun _ => (l0, l1, m, l3, lateL l0 l3 n m l3.length)) l3.length (by
      refine Ev.step (f := fun _ => some (l0, l1, m, l3, lateL l0 l3 n m l3.length)) (fun k => ?_) (Ev.now _)
      simp only [spec_TickRun.l0]
      rw [if_neg (by omega)]) (by
      intro i hi ih
      have hll := late_len l0 l3 n m i
      have ew : wrap64 ((i : Int) + 1) = (i : Int) + 1 := w64 (by omega) (by omega)
      refine Ev.step (fun k => ?_) ih
      simp only [spec_TickRun.l0, ew, lateL]
      rw [if_pos (by omega), if_pos (by omega), if_pos (by omega)]
      by_cases c1 : (rd_T39 l0 (i : Int)).f2 > 0
      · rw [if_pos c1]
        by_cases c2 : (rd_T43 l3 (i : Int)).f0 = 2
        · rw [if_pos c2, dec_false (p := isLate l0 l3 n m i) (fun x => x.2.1 c2), if_neg (by decide), List.append_nil]; rfl
        · rw [if_neg c2]
          by_cases c3 : (rd_T39 l0 (i : Int)).f2 ≥ n
          · rw [if_pos c3]
            by_cases c4 : (rd_T39 l0 (i : Int)).f2 < m
            · rw [if_pos c4, dec_true (p := isLate l0 l3 n m i) ⟨c1, c2, c3, c4⟩, if_pos rfl, if_pos (by omega)]; rfl
            · rw [if_neg c4, dec_false (p := isLate l0 l3 n m i) (fun x => c4 x.2.2.2), if_neg (by decide), List.append_nil]; rfl
          · rw [if_neg c3, dec_false (p := isLate l0 l3 n m i) (fun x => c3 x.2.2.1), if_neg (by decide), List.append_nil]; rfl
      · rw [if_neg c1, dec_false (p := isLate l0 l3 n m i) (fun x => c1 x.1), if_neg (by decide), List.append_nil]; rfl) 0 (Nat.zero_le _)
  simpa [lateL] using key
def tickN (n a : Int) : Int := if n + a ≤ 1000000000000 then n + a else 1000000000000
noncomputable def tickRun (l0 : List S39) (l1 : List Int) (n : Int) (l3 : List S43) (a : Int) : List S39 × List Int × Int × List S43 × List Int :=
  if dec_ (runP l0 l1 n l3) = true ∧ 0 ≤ a then (l0, l1, tickN n a, l3, lateL l0 l3 n (tickN n a) l3.length) else ([], [], 0, [], [])
theorem specTick_ev (l0 : List S39) (l1 : List Int) (n : Int) (l3 : List S43) (a : Int) (h : FitsR l0 l1 l3) : Ev (fun k => spec_TickRun.f k l0 l1 n l3 a) (tickRun l0 l1 n l3 a) := by
  have bad : Ev (fun k => spec_TickRun.j0 k a [] true l0 l1 n l3) ([], [], 0, [], []) := Ev.step (f := fun _ => some ([], [], 0, [], [])) (fun k => by simp only [spec_TickRun.j0, if_true]) (Ev.now _)
  unfold spec_TickRun.f tickRun
  simp only [Option.bind_some]
  refine Ev_bind _ (specOkR_ev l0 l1 n l3 h) ?_
  by_cases c : runP l0 l1 n l3
  · rw [dec_true c]
    simp only [if_true, true_and]
    by_cases c2 : a < 0
    · rw [if_neg (show ¬ 0 ≤ a by omega), decide_eq_true c2]
      exact bad
    · rw [if_pos (show 0 ≤ a by omega), decide_eq_false c2]
      have hn := c.2.1
      have e : mn (wrap64 (n + mn a 1000000000000)) 1000000000000 = tickN n a := by
        have e1 : wrap64 (n + mn a 1000000000000) = n + mn a 1000000000000 := w64 (by unfold mn; split <;> omega) (by unfold mn; split <;> omega)
        rw [e1]
        unfold mn tickN
        split <;> split <;> split <;> omega
      refine Ev.step (f := fun k => (spec_l24Copy.f k l0 l1 n l3).bind fun bt => spec_TickRun.l0 k [] 0 l0 l1 n l3 bt.1 bt.2.1 (tickN n a) bt.2.2.2) (fun k => by simp only [spec_TickRun.j0, Bool.false_eq_true, if_false, e]) ?_
      exact Ev_bind _ (specCopyR_ev l0 l1 n l3 h) (specLate_ev l0 l1 n _ l3 h c.2.2.1)
  · rw [dec_false c]
    simp only [Bool.false_eq_true, if_false, false_and]
    exact bad
theorem suite_fits {l0 : List S39} {l1 : List Int} (hs : suiteOk l0 l1) : Fits l0 l1 := by
  refine ⟨by have := hs.1.2; omega, fun q hq => ?_, by have := hs.2.1.2; omega⟩
  have := ok_len (hs.2.2.2 q (Nat.zero_le _) hq).2 (by omega)
  have := hs.1.2
  omega
theorem specStart_ev (l0 : List S39) (l1 : List Int) (n : Int) (l3 : List S43) (h : FitsR l0 l1 l3) (hr : runP l0 l1 n l3) : ∃ y3 bg, Ev (fun k => spec_StartTasks.f k l0 l1 n l3) (l0, l1, n, y3, bg) ∧ runP l0 l1 n y3 := by
  have hn3 := h.n3
  have hl := hr.2.2.1
  have key : ∀ (d i : Nat) (x3 : List S43) (bg : List Int), i + d = l3.length → x3.length = l3.length → bg.length ≤ i → runP l0 l1 n x3 → ∃ y3 b, Ev (fun k => spec_StartTasks.l0 k bg (i : Int) l0 l1 n x3) (l0, l1, n, y3, b) ∧ runP l0 l1 n y3 := by
    intro d
    induction d with
    | zero =>
      intro i x3 bg hi hx hb hp
      refine ⟨x3, bg, Ev.step (f := fun _ => some (l0, l1, n, x3, bg)) (fun k => ?_) (Ev.now _), hp⟩
      simp only [spec_StartTasks.l0]
      rw [if_neg (by omega)]
    | succ d ih =>
      intro i x3 bg hi hx hb hp
      have hil : i < x3.length := by omega
      have hf3 : FitsR l0 l1 x3 := ⟨h.s, by omega⟩
      have ew : wrap64 ((i : Int) + 1) = ((i + 1 : Nat) : Int) := by rw [w64 (by omega) (by omega)]; rfl
      have hg := (hp.1.2.2.2 i (Nat.zero_le _) (by omega)).1.1
      have ew2 : wrap64 ((rd_T39 l0 (i : Int)).f1 - 1) = (rd_T39 l0 (i : Int)).f1 - 1 := w64 (by have := h.s.n2; omega) (by have := h.s.n2; omega)
      have hv := ((jOk_iff l0 x3 i).mp (hp.2.2.2.1 i (Nat.zero_le _) hil)).1
      have hm := (hp.1.2.2.2 i (Nat.zero_le _) (by omega)).1.2.2
      have stay := ih (i + 1) x3 bg (by omega) hx (by omega) hp
      by_cases c0 : (rd_T43 x3 (i : Int)).f0 = 0
      · have ef := specFree_ev l0 l1 n x3 i (by omega) (h.s.n1 i (by omega)) hf3.n3 (after_bd hp.1 (by omega) i hil)
        have er := specRunning_ev l0 l1 n x3 (rd_T39 l0 (i : Int)).f1 (by omega) hf3.n3
        by_cases c1 : freeFrom x3 (rd_T39 l0 (i : Int)).f0 0
        · rw [dec_true c1] at ef
          by_cases c2 : cntG l0 x3 (rd_T39 l0 (i : Int)).f1 x3.length < rd l1 ((rd_T39 l0 (i : Int)).f1 - 1)
          · have ew3 : wrap64 ((rd_T43 x3 (i : Int)).f1 + 1) = (rd_T43 x3 (i : Int)).f1 + 1 := w64 (by have := hv.2.1; omega) (by have := hv.2.1; omega)
            obtain ⟨y3, b, e, hy⟩ := ih (i + 1) (x3.set i ⟨1, (rd_T43 x3 (i : Int)).f1 + 1⟩) (bg ++ [((i + 1 : Nat) : Int)]) (by omega) (by simpa using hx) (by simp; omega) (runP_start hp i hil c0 c1 c2)
            refine ⟨y3, b, Ev.step (f := fun k => (spec_l24Free.f k l0 l1 n x3 (i : Int)).bind fun t => if t = true then ((spec_l24Running.f k l0 l1 n x3 (rd_T39 l0 (i : Int)).f1).bind fun t3 => if t3 < rd l1 ((rd_T39 l0 (i : Int)).f1 - 1) then spec_StartTasks.l0 k (bg ++ [((i + 1 : Nat) : Int)]) ((i + 1 : Nat) : Int) l0 l1 n (x3.set i ⟨1, (rd_T43 x3 (i : Int)).f1 + 1⟩) else spec_StartTasks.l0 k bg ((i + 1 : Nat) : Int) l0 l1 n x3) else spec_StartTasks.l0 k bg ((i + 1 : Nat) : Int) l0 l1 n x3) (fun k => ?_) (Ev_bind _ ef ?_), hy⟩
            · simp only [spec_StartTasks.l0, ew, ew2, ew3, Int.toNat_natCast]
              rw [if_pos (by omega), if_pos (by omega), if_pos (by omega), if_pos c0]
              simp only [if_pos (show 0 ≤ (rd_T39 l0 (i : Int)).f1 - 1 by omega), if_pos (show (rd_T39 l0 (i : Int)).f1 - 1 < (l1.length : Int) by omega), if_pos (show bg.length < 17592186044416 by omega)]
            · simp only [if_true]
              refine Ev_bind _ er ?_
              simp only [if_pos c2]
              exact e
          · obtain ⟨y3, b, e, hy⟩ := stay
            refine ⟨y3, b, Ev.step (f := fun k => (spec_l24Free.f k l0 l1 n x3 (i : Int)).bind fun t => if t = true then ((spec_l24Running.f k l0 l1 n x3 (rd_T39 l0 (i : Int)).f1).bind fun t3 => if t3 < rd l1 ((rd_T39 l0 (i : Int)).f1 - 1) then spec_StartTasks.l0 k (bg ++ [((i + 1 : Nat) : Int)]) ((i + 1 : Nat) : Int) l0 l1 n (x3.set i ⟨1, wrap64 ((rd_T43 x3 (i : Int)).f1 + 1)⟩) else spec_StartTasks.l0 k bg ((i + 1 : Nat) : Int) l0 l1 n x3) else spec_StartTasks.l0 k bg ((i + 1 : Nat) : Int) l0 l1 n x3) (fun k => ?_) (Ev_bind _ ef ?_), hy⟩
            · simp only [spec_StartTasks.l0, ew, ew2, Int.toNat_natCast]
              rw [if_pos (by omega), if_pos (by omega), if_pos (by omega), if_pos c0]
              simp only [if_pos (show 0 ≤ (rd_T39 l0 (i : Int)).f1 - 1 by omega), if_pos (show (rd_T39 l0 (i : Int)).f1 - 1 < (l1.length : Int) by omega), if_pos (show bg.length < 17592186044416 by omega)]
            · simp only [if_true]
              refine Ev_bind _ er ?_
              simp only [if_neg c2]
              exact e
        · rw [dec_false c1] at ef
          obtain ⟨y3, b, e, hy⟩ := stay
          refine ⟨y3, b, Ev.step (f := fun k => (spec_l24Free.f k l0 l1 n x3 (i : Int)).bind fun t => if t = true then ((spec_l24Running.f k l0 l1 n x3 (rd_T39 l0 (i : Int)).f1).bind fun t3 => if t3 < rd l1 ((rd_T39 l0 (i : Int)).f1 - 1) then spec_StartTasks.l0 k (bg ++ [((i + 1 : Nat) : Int)]) ((i + 1 : Nat) : Int) l0 l1 n (x3.set i ⟨1, wrap64 ((rd_T43 x3 (i : Int)).f1 + 1)⟩) else spec_StartTasks.l0 k bg ((i + 1 : Nat) : Int) l0 l1 n x3) else spec_StartTasks.l0 k bg ((i + 1 : Nat) : Int) l0 l1 n x3) (fun k => ?_) (Ev_bind _ ef ?_), hy⟩
          · simp only [spec_StartTasks.l0, ew, ew2, Int.toNat_natCast]
            rw [if_pos (by omega), if_pos (by omega), if_pos (by omega), if_pos c0]
            simp only [if_pos (show 0 ≤ (rd_T39 l0 (i : Int)).f1 - 1 by omega), if_pos (show (rd_T39 l0 (i : Int)).f1 - 1 < (l1.length : Int) by omega), if_pos (show bg.length < 17592186044416 by omega)]
          · simp only [Bool.false_eq_true, if_false]
            exact e
      · obtain ⟨y3, b, e, hy⟩ := stay
        refine ⟨y3, b, Ev.step (fun k => ?_) e, hy⟩
        simp only [spec_StartTasks.l0, ew]
        rw [if_pos (by omega), if_pos (by omega), if_pos (by omega), if_neg c0]
  obtain ⟨y3, b, e, hy⟩ := key l3.length 0 l3 [] (by omega) rfl (by simp) hr
  refine ⟨y3, b, ?_, hy⟩
  unfold spec_StartTasks.f
  simp only [Option.bind_some]
  refine Ev_bind _ (specOkR_ev l0 l1 n l3 h) ?_
  rw [dec_true hr]
  simp only [if_true]
  exact Ev_bind _ (specCopyR_ev l0 l1 n l3 h) e
theorem specNewP_ev (l0 : List S39) (l1 : List Int) (h : Fits l0 l1) (hs : suiteOk l0 l1) : Ev (fun k => spec_NewRun.f k l0 l1) (l0, l1, 0, List.replicate l0.length z43, true) ∧ runP l0 l1 0 (List.replicate l0.length z43) := by
  have hn0 := h.n0
  refine ⟨?_, hs, by omega, by simp, fun q _ hq => ?_, fun q _ hq => ?_⟩
  · unfold spec_NewRun.f
    refine Ev_bind _ (specOk_ev l0 l1 h) ?_
    rw [dec_true hs]
    simp only [if_true]
    refine Ev_bind _ (specCopy_ev l0 l1 h) ?_
    simp only [if_pos (show (0 : Int) ≤ (l0.length : Int) by omega), Int.toNat_natCast, if_pos (show l0.length ≤ 17592186044416 by omega)]
    exact Ev.now _
  · have e : rd_T43 (List.replicate l0.length z43) (q : Int) = z43 := by rw [rdT43 _ q hq, List.getElem_replicate]
    have hm := (hs.2.2.2 q (Nat.zero_le _) (by simpa using hq)).1.2.2
    rw [jOk_iff, e]
    refine ⟨⟨by decide, ⟨by decide, by show (0 : Int) ≤ _; omega⟩, fun _ => by show (0 : Int) ≠ _; omega, fun x => absurd x (by decide), fun x => absurd rfl x⟩, fun x => absurd rfl x⟩
  · have h1 := (hs.2.2.1 q (Nat.zero_le _) hq).1
    have h2 := cntG_bd l0 (List.replicate l0.length z43) ((q : Int) + 1) (List.replicate l0.length z43).length
    by_cases cz : 0 < cntG l0 (List.replicate l0.length z43) ((q : Int) + 1) (List.replicate l0.length z43).length
    · obtain ⟨p, hp, e1, _⟩ := cntG_pos _ cz
      rw [rdT43 _ p hp, List.getElem_replicate] at e1
      exact absurd e1 (by decide)
    · omega
theorem runP_fits {l0 : List S39} {l1 : List Int} {n : Int} {l3 : List S43} (h : runP l0 l1 n l3) : FitsR l0 l1 l3 := by
  obtain ⟨hs, _, hl, _⟩ := h
  refine ⟨suite_fits hs, ?_⟩
  have := hs.1.2
  omega
end Go.Proofs.Ytjoghfehmhapbaa.QFnReportsAnyway
