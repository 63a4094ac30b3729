/- Runs, plainly: what a start, a report, a crash and a tick leave is a good run again. -/
import Derived.Test.YtjoghfehmhapbaaRunLibDFnSuiteOnce
set_option linter.unusedVariables false
set_option linter.unusedSimpArgs false
namespace Go.Proofs.Ytjoghfehmhapbaa.QFnSuiteOnce
open Go.RowKit Go.Proofs.YtjoghfehmhapbaaW.PrintWords Go.Proofs.YtjoghfehmhapbaaW.PrintMore Go.Proofs.Ytjoghfehmhapbaa.Opn Go.Proofs.Ytjoghfehmhapbaa.Pl

/-- The conditions on one job but for what it comes behind. -/
def jVal (most : Int) (v : S43) : Prop := (0 ≤ v.f0 ∧ v.f0 ≤ 3) ∧ (0 ≤ v.f1 ∧ v.f1 ≤ most) ∧ (v.f0 = 0 → v.f1 ≠ most) ∧ (v.f0 = 3 → v.f1 = most) ∧ (v.f0 ≠ 0 → v.f1 ≠ 0)
theorem jOk_iff (l0 : List S39) (l3 : List S43) (i : Nat) : jOk l0 l3 i ↔ jVal (rd_T39 l0 (i : Int)).f3 (rd_T43 l3 (i : Int)) ∧ ((rd_T43 l3 (i : Int)).f0 ≠ 0 → freeFrom l3 (rd_T39 l0 (i : Int)).f0 0) := by
  unfold jOk jVal
  constructor
  · rintro ⟨a, b, c, d, e⟩
    exact ⟨⟨a, b, c, d, fun x => (e x).1⟩, fun x => (e x).2⟩
  · rintro ⟨⟨a, b, c, d, e⟩, f⟩
    exact ⟨a, b, c, d, fun x => ⟨e x, f x⟩⟩
/-- A job that a task comes behind lies ahead of it. -/
theorem after_at {l0 : List S39} {l1 : List Int} {l3 : List S43} (hs : suiteOk l0 l1) (hl : l3.length = l0.length) (i : Nat) (hi : i < l3.length) (q : Nat) (hq : q < (rd_T39 l0 (i : Int)).f0.length) : ∃ p : Nat, rd (rd_T39 l0 (i : Int)).f0 (q : Int) - 1 = (p : Int) ∧ p < i := by
  have := ((hs.2.2.2 i (Nat.zero_le _) (by omega)).2 q (Nat.zero_le _) hq).1
  exact ⟨(rd (rd_T39 l0 (i : Int)).f0 (q : Int) - 1).toNat, by omega, by omega⟩
theorem jobs_upd {l0 : List S39} {l1 : List Int} {l3 : List S43} (hs : suiteOk l0 l1) (hl : l3.length = l0.length) (hj : jobsFrom l0 l3 0) (i : Nat) (hi : i < l3.length) (h2 : (rd_T43 l3 (i : Int)).f0 ≠ 2) (v : S43) (hv : jVal (rd_T39 l0 (i : Int)).f3 v) (hf : v.f0 ≠ 0 → freeFrom l3 (rd_T39 l0 (i : Int)).f0 0) : jobsFrom l0 (l3.set i v) 0 := by
  intro q _ hq
  have hq' : q < l3.length := by simpa using hq
  have keep : freeFrom l3 (rd_T39 l0 (q : Int)).f0 0 → freeFrom (l3.set i v) (rd_T39 l0 (q : Int)).f0 0 := by
    intro h x h1 hx
    obtain ⟨p, hp, hpq⟩ := after_at hs hl q hq' x hx
    have e := h x h1 hx
    rw [hp] at e ⊢
    rw [rdJ_set l3 i p v (by omega)]
    by_cases c : i = p
    · subst c; exact absurd e h2
    · rw [if_neg c]; exact e
  rw [jOk_iff]
  have ho := (jOk_iff l0 l3 q).mp (hj q (Nat.zero_le _) hq')
  rw [rdJ_set l3 i q v hq']
  by_cases c : i = q
  · subst c
    rw [if_pos rfl]
    exact ⟨hv, fun x => keep (hf x)⟩
  · rw [if_neg c]
    exact ⟨ho.1, fun x => keep (ho.2 x)⟩
theorem cnt_upd (l0 : List S39) (l3 : List S43) (g : Int) (i : Nat) (v : S43) (hi : i < l3.length) : ∀ n : Nat, n ≤ l3.length →
    cntG l0 (l3.set i v) g n = cntG l0 l3 g n + (if i < n then (if v.f0 = 1 ∧ (rd_T39 l0 (i : Int)).f1 = g then 1 else 0) - (if (rd_T43 l3 (i : Int)).f0 = 1 ∧ (rd_T39 l0 (i : Int)).f1 = g then 1 else 0) else 0) := by
  intro n
  induction n with
  | zero => intro _; simp [cntG]
  | succ n ih =>
    intro hn
    simp only [cntG]
    rw [ih (by omega), rdJ_set l3 i n v (by omega)]
    by_cases c : i = n
    · subst c
      rw [if_pos rfl, if_neg (Nat.lt_irrefl _), if_pos (Nat.lt_succ_self _)]
      omega
    · rw [if_neg c]
      by_cases c2 : i < n
      · rw [if_pos c2, if_pos (show i < n + 1 by omega)]; omega
      · rw [if_neg c2, if_neg (show ¬ i < n + 1 by omega)]; omega
/-- One job turned. -/
theorem runP_upd {l0 : List S39} {l1 : List Int} {n : Int} {l3 : List S43} (h : runP l0 l1 n l3) (i : Nat) (hi : i < l3.length) (h2 : (rd_T43 l3 (i : Int)).f0 ≠ 2) (v : S43) (hv : jVal (rd_T39 l0 (i : Int)).f3 v) (hf : v.f0 ≠ 0 → freeFrom l3 (rd_T39 l0 (i : Int)).f0 0)
    (hc : v.f0 = 1 → (rd_T43 l3 (i : Int)).f0 = 1 ∨ cntG l0 l3 (rd_T39 l0 (i : Int)).f1 l3.length < rd l1 ((rd_T39 l0 (i : Int)).f1 - 1)) : runP l0 l1 n (l3.set i v) := by
  obtain ⟨hs, hn, hl, hj, hm⟩ := h
  refine ⟨hs, hn, by simpa using hl, jobs_upd hs hl hj i hi h2 v hv hf, fun q _ hq => ?_⟩
  have hm := hm q (Nat.zero_le _) hq
  rw [List.length_set, cnt_upd l0 l3 _ i v hi _ (Nat.le_refl _), if_pos hi]
  by_cases c : v.f0 = 1 ∧ (rd_T39 l0 (i : Int)).f1 = (q : Int) + 1
  · rw [if_pos c]
    rcases hc c.1 with ho | ho
    · rw [if_pos ⟨ho, c.2⟩]; omega
    · rw [c.2, show (q : Int) + 1 - 1 = (q : Int) by omega] at ho
      split <;> omega
  · rw [if_neg c]
    split <;> omega
theorem runP_now {l0 : List S39} {l1 : List Int} {n m : Int} {l3 : List S43} (h : runP l0 l1 n l3) (hm : 0 ≤ m ∧ m ≤ 1000000000000) : runP l0 l1 m l3 := ⟨h.1, hm, h.2.2⟩
/-- A waiting task that is free and whose group has room starts. -/
theorem runP_start {l0 : List S39} {l1 : List Int} {n : Int} {l3 : List S43} (h : runP l0 l1 n l3) (i : Nat) (hi : i < l3.length) (h0 : (rd_T43 l3 (i : Int)).f0 = 0) (hf : freeFrom l3 (rd_T39 l0 (i : Int)).f0 0) (hc : cntG l0 l3 (rd_T39 l0 (i : Int)).f1 l3.length < rd l1 ((rd_T39 l0 (i : Int)).f1 - 1)) :
    runP l0 l1 n (l3.set i ⟨1, (rd_T43 l3 (i : Int)).f1 + 1⟩) := by
  have ho := ((jOk_iff l0 l3 i).mp (h.2.2.2.1 i (Nat.zero_le _) hi)).1
  refine runP_upd h i hi (by omega) _ ⟨⟨by simp, by simp⟩, ?_, fun x => absurd x (by simp), fun x => absurd x (by simp), fun _ => ?_⟩ (fun _ => hf) (fun _ => .inr hc)
  · have := ho.2.2.1 h0
    have := ho.2.1
    show 0 ≤ (rd_T43 l3 (i : Int)).f1 + 1 ∧ (rd_T43 l3 (i : Int)).f1 + 1 ≤ _
    omega
  · have := ho.2.1
    show (rd_T43 l3 (i : Int)).f1 + 1 ≠ 0
    omega
/-- A running task ends, well or not. -/
theorem runP_report {l0 : List S39} {l1 : List Int} {n : Int} {l3 : List S43} (h : runP l0 l1 n l3) (i : Nat) (hi : i < l3.length) (h1 : (rd_T43 l3 (i : Int)).f0 = 1) (w : Int) (hw : w = 2 ∨ (w = 3 ∧ (rd_T43 l3 (i : Int)).f1 = (rd_T39 l0 (i : Int)).f3) ∨ (w = 0 ∧ (rd_T43 l3 (i : Int)).f1 ≠ (rd_T39 l0 (i : Int)).f3)) :
    runP l0 l1 n (l3.set i ⟨w, (rd_T43 l3 (i : Int)).f1⟩) := by
  have ho := (jOk_iff l0 l3 i).mp (h.2.2.2.1 i (Nat.zero_le _) hi)
  refine runP_upd h i hi (by omega) _ ⟨⟨by show 0 ≤ w; omega, by show w ≤ 3; omega⟩, ho.1.2.1, fun x => ?_, fun x => ?_, fun _ => ho.1.2.2.2.2 (by omega)⟩ (fun _ => ho.2 (by omega)) (fun x => ?_)
  · have x : w = 0 := x
    show (rd_T43 l3 (i : Int)).f1 ≠ _
    omega
  · have x : w = 3 := x
    show (rd_T43 l3 (i : Int)).f1 = _
    omega
  · have x : w = 1 := x
    omega
/-- A crash. -/
def crashJ (j : S43) : S43 := if j.f0 = 1 then ⟨0, wrap64 (j.f1 - 1)⟩ else j
theorem rd_crash (l : List S43) (i : Nat) (hi : i < l.length) : rd_T43 (l.map crashJ) (i : Int) = crashJ (rd_T43 l (i : Int)) := by
  rw [rdT43 _ i (by simpa using hi), rdT43 l i hi, List.getElem_map]
theorem crash2 (j : S43) : (crashJ j).f0 = 2 ↔ j.f0 = 2 := by
  unfold crashJ
  by_cases c : j.f0 = 1
  · rw [if_pos c]; constructor <;> intro h
    · exact absurd h (by simp)
    · omega
  · rw [if_neg c]
theorem crash_ne (j : S43) : (crashJ j).f0 ≠ 1 := by
  unfold crashJ
  by_cases c : j.f0 = 1
  · rw [if_pos c]; simp
  · rw [if_neg c]; exact c
theorem crash_val {most : Int} {j : S43} (hm : most ≤ 5) (h : jVal most j) : jVal most (crashJ j) := by
  unfold crashJ
  by_cases c : j.f0 = 1
  · rw [if_pos c]
    obtain ⟨a, b, _, _, e⟩ := h
    have e := e (by omega)
    have ew : wrap64 (j.f1 - 1) = j.f1 - 1 := w64 (by omega) (by omega)
    rw [ew]
    refine ⟨⟨by simp, by simp⟩, ⟨by show 0 ≤ j.f1 - 1; omega, by show j.f1 - 1 ≤ most; omega⟩, fun _ => by show j.f1 - 1 ≠ most; omega, fun x => absurd x (by simp), fun x => absurd rfl x⟩
  · rw [if_neg c]; exact h
theorem runP_crash {l0 : List S39} {l1 : List Int} {n : Int} {l3 : List S43} (h : runP l0 l1 n l3) : runP l0 l1 n (l3.map crashJ) := by
  obtain ⟨hs, hn, hl, hj, hm⟩ := h
  refine ⟨hs, hn, by simpa using hl, fun q _ hq => ?_, fun q _ hq => ?_⟩
  · have hq' : q < l3.length := by simpa using hq
    have ho := (jOk_iff l0 l3 q).mp (hj q (Nat.zero_le _) hq')
    have ha := (hs.2.2.2 q (Nat.zero_le _) (by omega)).1
    rw [jOk_iff, rd_crash l3 q hq']
    refine ⟨crash_val ha.2.2.2 ho.1, fun x => ?_⟩
    have x' : (rd_T43 l3 (q : Int)).f0 ≠ 0 := by
      intro e
      unfold crashJ at x
      rw [if_neg (by omega)] at x
      exact x e
    intro y h1 hy
    obtain ⟨p, hp, hpq⟩ := after_at hs hl q hq' y hy
    have e := ho.2 x' y h1 hy
    rw [hp] at e ⊢
    rw [rd_crash l3 p (by omega)]
    exact (crash2 _).mpr e
  · have h1 := (hs.2.2.1 q (Nat.zero_le _) hq).1
    have h2 := cntG_bd l0 (l3.map crashJ) ((q : Int) + 1) (l3.map crashJ).length
    by_cases cz : 0 < cntG l0 (l3.map crashJ) ((q : Int) + 1) (l3.map crashJ).length
    · obtain ⟨p, hp, e1, _⟩ := cntG_pos _ cz
      rw [rd_crash l3 p (by simpa using hp)] at e1
      exact absurd e1 (crash_ne _)
    · omega
end Go.Proofs.Ytjoghfehmhapbaa.QFnSuiteOnce
