/- Runs, plainly, for a suite under drawn events: what the program's steps leave; what a start begins, what is stuck at last. No condition beside sizes. -/
import Derived.Test.YtjoghfehmhapbaaRunDrawDFnSuiteOnce
import Derived.Test.YtjoghfehmhapbaaStartMapFnSuiteOnce
set_option linter.unusedVariables false
set_option linter.unusedSimpArgs false
namespace Go.Proofs.Ytjoghfehmhapbaa.QFnSuiteOnce
open Go.RowKit Go.Proofs.YtjoghfehmhapbaaW.PrintWords Go.Proofs.YtjoghfehmhapbaaW.PrintMore Go.Proofs.Ytjoghfehmhapbaa.Opn Go.Proofs.Ytjoghfehmhapbaa.Pl

noncomputable def newRun (l0 : List S39) (l1 : List Int) : List S39 × List Int × Int × List S43 × Bool := if dec_ (suiteOk l0 l1) = true then (l0, l1, 0, List.replicate l0.length z43, true) else ([], [], 0, [], false)
theorem specNew_ev (l0 : List S39) (l1 : List Int) (h : Fits l0 l1) : Ev (fun k => spec_NewRun.f k l0 l1) (newRun l0 l1) := by
  have hn0 := h.n0
  unfold spec_NewRun.f newRun
  refine Ev_bind _ (specOk_ev l0 l1 h) ?_
  by_cases c : dec_ (suiteOk l0 l1) = true
  · simp only [if_pos c]
    refine Ev_bind _ (specCopy_ev l0 l1 h) ?_
    simp only [if_pos (show (0 : Int) ≤ (l0.length : Int) by omega), Int.toNat_natCast, if_pos (show l0.length ≤ 17592186044416 by omega)]
    exact Ev.now _
  · simp only [if_neg c]
    exact Ev.now _
theorem implNew_ev (l0 : List S39) (l1 : List Int) (h : Fits l0 l1) : Ev (fun k => impl_NewRun.f k l0 l1) (newRun l0 l1) := by
  have hn0 := h.n0
  unfold impl_NewRun.f newRun
  refine Ev_bind _ (implOk_ev l0 l1 h) ?_
  by_cases c : dec_ (suiteOk l0 l1) = true
  · simp only [if_pos c]
    refine Ev_bind _ (implCopy_ev l0 l1 h) ?_
    simp only [if_pos (show (0 : Int) ≤ (l0.length : Int) by omega), Int.toNat_natCast, if_pos (show l0.length ≤ 17592186044416 by omega)]
    exact Ev.now _
  · simp only [if_neg c]
    exact Ev.now _
theorem implCrashL_ev (l0 : List S39) (l1 : List Int) (n : Int) (l3 : List S43) (h3 : l3.length ≤ 1048576) : Ev (fun k => impl_CrashRun.l0 k (l3.length : Int) 0 l0 l1 n l3) (l0, l1, n, l3.map crashJ) := by
  have key := Ev_up (fun k i => impl_CrashRun.l0 k (l3.length : Int) (i : Int) l0 l1 n ((l3.map crashJ).take i ++ l3.drop i)) (fun _ => (l0, l1, n, l3.map crashJ)) l3.length (by
      refine Ev.step (f := fun _ => some (l0, l1, n, l3.map crashJ)) (fun k => ?_) (Ev.now _)
      simp only [impl_CrashRun.l0]
      rw [if_neg (by omega), List.drop_length, List.append_nil, List.take_of_length_le (by simp)]) (by
      intro i hi ih
      have hlen : ((l3.map crashJ).take i ++ l3.drop i).length = l3.length := by simp; omega
      refine Ev.step (fun k => ?_) ih
      simp only [impl_CrashRun.l0, Option.bind_some]
      rw [Int.toNat_natCast, rdJ_set _ i i _ (by omega), if_pos rfl, List.set_set, rd_mid l3 _ i hi (by simp), if_pos (by omega), if_pos (by omega), if_pos (by omega), w64 (n := (i : Int) + 1) (by omega) (by omega)]
      by_cases c : (rd_T43 l3 (i : Int)).f0 = 1
      · rw [if_pos c, crash_set l3 i hi c]; rfl
      · rw [if_neg c, crash_stay l3 i hi c]; rfl) 0 (Nat.zero_le _)
  simpa using key
theorem implCrash_ev (l0 : List S39) (l1 : List Int) (n : Int) (l3 : List S43) (h : FitsR l0 l1 l3) : Ev (fun k => impl_CrashRun.f k l0 l1 n l3) (crashRun l0 l1 n l3) := by
  unfold impl_CrashRun.f crashRun
  refine Ev_bind _ (implOkR_ev l0 l1 n l3 h) ?_
  by_cases c : dec_ (runP l0 l1 n l3) = true
  · simp only [if_pos c]
    exact Ev_bind _ (implCopyR_ev l0 l1 n l3 h) (implCrashL_ev l0 l1 n l3 h.n3)
  · simp only [if_neg c]
    exact Ev.now _
theorem implRep_ev (l0 : List S39) (l1 : List Int) (n : Int) (l3 : List S43) (a : Int) (ok : Bool) (h : FitsR l0 l1 l3) : Ev (fun k => impl_Report.f k l0 l1 n l3 a ok) (repRun l0 l1 n l3 a ok) := by
  have bad : Ev (fun k => impl_Report.j0 k a ok true l0 l1 n l3 l0 l1 n l3) (l0, l1, n, l3, false) := Ev.step (f := fun _ => some (l0, l1, n, l3, false)) (fun k => by simp only [impl_Report.j0, if_true]) (Ev.now _)
  have hn3 := h.n3
  unfold impl_Report.f repRun
  refine Ev_bind _ (implOkR_ev l0 l1 n l3 h) ?_
  by_cases c : runP l0 l1 n l3
  · rw [dec_true c]
    simp only [if_true]
    refine Ev_bind _ (implCopyR_ev l0 l1 n l3 h) ?_
    simp only [implIn, Option.bind_some]
    by_cases c1 : 1 ≤ a ∧ a ≤ (l3.length : Int)
    · have ew : wrap64 (a - 1) = a - 1 := w64 (by omega) (by omega)
      simp only [decide_eq_true c1, if_true, ew, if_pos (show 0 ≤ a - 1 by omega), if_pos (show a - 1 < (l3.length : Int) by omega)]
      by_cases c2 : (rd_T43 l3 (a - 1)).f0 = 1
      · rw [if_pos ⟨c1, c2⟩, show ((rd_T43 l3 (a - 1)).f0 != 1) = false from bne_eq_false_iff_eq.mpr c2]
        refine Ev.step (f := fun _ => some (l0, l1, n, l3.set (a - 1).toNat ⟨repHow l0 l3 a ok, (rd_T43 l3 (a - 1)).f1⟩, true)) (fun k => ?_) (Ev.now _)
        have hl := c.2.2.1
        simp only [impl_Report.j0, Bool.false_eq_true, if_false, ew, if_pos (show 0 ≤ a - 1 by omega), if_pos (show a - 1 < (l3.length : Int) by omega), if_pos (show a - 1 < (l0.length : Int) by omega), repHow]
        by_cases c3 : ok = true
        · rw [if_pos c3, if_pos c3]
        · rw [if_neg c3, if_neg c3]
          by_cases c4 : (rd_T43 l3 (a - 1)).f1 = (rd_T39 l0 (a - 1)).f3
          · rw [if_pos c4, if_pos c4]
          · rw [if_neg c4, if_neg c4]
      · rw [if_neg (fun x => c2 x.2), show ((rd_T43 l3 (a - 1)).f0 != 1) = true from bne_iff_ne.mpr c2]
        exact bad
    · rw [if_neg (fun x => c1 x.1)]
      simp only [decide_eq_false c1, Bool.false_eq_true, if_false]
      exact bad
  · rw [dec_false c]
    simp only [Bool.false_eq_true, if_false]
    exact Ev.now _
theorem rep_at {l0 : List S39} {l1 : List Int} {n : Int} {l3 : List S43} (h : runP l0 l1 n l3) (i : Nat) (hi : i < l3.length) (h1 : (rd_T43 l3 (i : Int)).f0 = 1) (ok : Bool) :
    repRun l0 l1 n l3 ((i : Int) + 1) ok = (l0, l1, n, l3.set i ⟨repHow l0 l3 ((i : Int) + 1) ok, (rd_T43 l3 (i : Int)).f1⟩, true) ∧ runP l0 l1 n (l3.set i ⟨repHow l0 l3 ((i : Int) + 1) ok, (rd_T43 l3 (i : Int)).f1⟩) := by
  have e : repRun l0 l1 n l3 ((i : Int) + 1) ok = (l0, l1, n, l3.set i ⟨repHow l0 l3 ((i : Int) + 1) ok, (rd_T43 l3 (i : Int)).f1⟩, true) := by
    unfold repRun
    have ei : (i : Int) + 1 - 1 = (i : Int) := by omega
    rw [if_pos (dec_true h), ei, if_pos ⟨⟨by omega, by omega⟩, h1⟩, Int.toNat_natCast]
  refine ⟨e, ?_⟩
  obtain ⟨y3, o, e2, hr⟩ := rep_good h ((i : Int) + 1) ok
  rw [e] at e2
  have e3 := congrArg (fun x => x.2.2.2.1) e2
  simp only at e3
  rw [e3]; exact hr
/-! ### what a start begins -/
def begins (l0 : List S39) (l1 : List Int) (x : List S43) (i : Nat) : Prop := (rd_T43 x (i : Int)).f0 = 0 ∧ freeFrom x (rd_T39 l0 (i : Int)).f0 0 ∧ cntG l0 x (rd_T39 l0 (i : Int)).f1 x.length < rd l1 ((rd_T39 l0 (i : Int)).f1 - 1)
noncomputable def startL (l0 : List S39) (l1 : List Int) : Nat → Nat → List S43 → List Int → List S43 × List Int
  | 0, _, x, bg => (x, bg)
  | d + 1, i, x, bg => if dec_ (begins l0 l1 x i) = true then startL l0 l1 d (i + 1) (x.set i ⟨1, wrap64 ((rd_T43 x (i : Int)).f1 + 1)⟩) (bg ++ [((i + 1 : Nat) : Int)]) else startL l0 l1 d (i + 1) x bg
theorem startL_len (l0 : List S39) (l1 : List Int) : ∀ (d i : Nat) (x : List S43) (bg : List Int), (startL l0 l1 d i x bg).1.length = x.length ∧ (startL l0 l1 d i x bg).2.length ≤ bg.length + d := by
  intro d
  induction d with
  | zero => intro i x bg; exact ⟨rfl, Nat.le_refl _⟩
  | succ d ih =>
    intro i x bg
    simp only [startL]
    split
    · obtain ⟨a, b⟩ := ih (i + 1) (x.set i ⟨1, wrap64 ((rd_T43 x (i : Int)).f1 + 1)⟩) (bg ++ [((i + 1 : Nat) : Int)])
      refine ⟨by rw [a, List.length_set], ?_⟩
      simp at b
      simp at b ⊢
      omega
    · obtain ⟨a, b⟩ := ih (i + 1) x bg
      exact ⟨a, by omega⟩
theorem set_set_job (x : List S43) (i : Nat) (hi : i < x.length) : ((x.set i ⟨1, (rd_T43 x (i : Int)).f1⟩).set i ⟨(rd_T43 (x.set i ⟨1, (rd_T43 x (i : Int)).f1⟩) (i : Int)).f0, wrap64 ((rd_T43 (x.set i ⟨1, (rd_T43 x (i : Int)).f1⟩) (i : Int)).f1 + 1)⟩ : List S43) = x.set i ⟨1, wrap64 ((rd_T43 x (i : Int)).f1 + 1)⟩ := set_two (y1 := x.set i ⟨1, (rd_T43 x (i : Int)).f1⟩) (i := (i : Int)) (by omega) (by omega) (by simp) (by simp)
theorem implStartL_ev (l0 : List S39) (l1 : List Int) (n : Int) (N : Nat) (hs : suiteOk l0 l1) (hF : Fits l0 l1) (hl : N = l0.length) : ∀ (d i : Nat) (x : List S43) (bg : List Int), i + d = N → x.length = N → bg.length ≤ i → Ev (fun k => impl_StartTasks.l0 k bg (N : Int) (i : Int) l0 l1 n x) (l0, l1, n, (startL l0 l1 d i x bg).1, (startL l0 l1 d i x bg).2) := by
  have hn0 := hF.n0
  have hn2 := hF.n2
  intro d
  induction d with
  | zero =>
    intro i x bg hi hx hb
    refine Ev.step (f := fun _ => some (l0, l1, n, x, bg)) (fun k => ?_) (Ev.now _)
    simp only [impl_StartTasks.l0]
    rw [if_neg (by omega)]
  | succ d ih =>
    intro i x bg hi hx hb
    have hil : i < x.length := by omega
    have ew : wrap64 ((i : Int) + 1) = ((i + 1 : Nat) : Int) := by rw [w64 (by omega) (by omega)]; rfl
    have hg := (hs.2.2.2 i (Nat.zero_le _) (by omega)).1.1
    have ew2 : wrap64 ((rd_T39 l0 (i : Int)).f1 - 1) = (rd_T39 l0 (i : Int)).f1 - 1 := w64 (by omega) (by omega)
    simp only [startL]
    by_cases c0 : (rd_T43 x (i : Int)).f0 = 0
    · have ef := implFree_ev l0 l1 n x i (by omega) (hF.n1 i (by omega)) (by omega) (after_bd hs (by omega) i hil)
      refine Ev.step (f := fun k => (impl_Run_done.f k l0 l1 n x (i : Int)).bind fun t => if t = true then (if cntG l0 x (rd_T39 l0 (i : Int)).f1 x.length < rd l1 ((rd_T39 l0 (i : Int)).f1 - 1) then impl_StartTasks.l0 k (bg ++ [((i + 1 : Nat) : Int)]) (N : Int) ((i + 1 : Nat) : Int) l0 l1 n (x.set i ⟨1, wrap64 ((rd_T43 x (i : Int)).f1 + 1)⟩) else impl_StartTasks.l0 k bg (N : Int) ((i + 1 : Nat) : Int) l0 l1 n x) else impl_StartTasks.l0 k bg (N : Int) ((i + 1 : Nat) : Int) l0 l1 n x) (fun k => ?_) (Ev_bind _ ef ?_)
      · simp only [impl_StartTasks.l0, impl_count.f, ew, ew2, Int.toNat_natCast, Option.bind_some]
        rw [if_pos (by omega), if_pos (by omega), if_pos (by omega), if_pos (by omega), if_pos c0]
        simp only [if_pos (show 0 ≤ (rd_T39 l0 (i : Int)).f1 - 1 by omega), if_pos (show (rd_T39 l0 (i : Int)).f1 - 1 < (l1.length : Int) by omega), if_pos (show bg.length < 17592186044416 by omega), set_set_job x i hil]
        by_cases c2 : cntG l0 x (rd_T39 l0 (i : Int)).f1 x.length < rd l1 ((rd_T39 l0 (i : Int)).f1 - 1)
        · simp only [if_pos c2, if_neg (show ¬ cntG l0 x (rd_T39 l0 (i : Int)).f1 x.length ≥ rd l1 ((rd_T39 l0 (i : Int)).f1 - 1) by omega)]
        · simp only [if_neg c2, if_pos (show cntG l0 x (rd_T39 l0 (i : Int)).f1 x.length ≥ rd l1 ((rd_T39 l0 (i : Int)).f1 - 1) by omega)]
      by_cases c1 : freeFrom x (rd_T39 l0 (i : Int)).f0 0
      · simp only [dec_true c1, if_true]
        by_cases c2 : cntG l0 x (rd_T39 l0 (i : Int)).f1 x.length < rd l1 ((rd_T39 l0 (i : Int)).f1 - 1)
        · rw [dec_true (p := begins l0 l1 x i) ⟨c0, c1, c2⟩]
          simp only [if_pos c2, if_true]
          exact ih (i + 1) _ _ (by omega) (by simpa using hx) (by simp; omega)
        · rw [dec_false (p := begins l0 l1 x i) (fun z => c2 z.2.2)]
          simp only [if_neg c2, Bool.false_eq_true, if_false]
          exact ih (i + 1) _ _ (by omega) hx (by omega)
      · rw [dec_false (p := begins l0 l1 x i) (fun z => c1 z.2.1)]
        simp only [dec_false c1, Bool.false_eq_true, if_false]
        exact ih (i + 1) _ _ (by omega) hx (by omega)
    · rw [dec_false (p := begins l0 l1 x i) (fun z => c0 z.1)]
      simp only [Bool.false_eq_true, if_false]
      refine Ev.step (fun k => ?_) (ih (i + 1) _ _ (by omega) hx (by omega))
      simp only [impl_StartTasks.l0, ew]
      rw [if_pos (by omega), if_pos (by omega), if_pos (by omega), if_pos (by omega), if_neg c0]
noncomputable def startRun (l0 : List S39) (l1 : List Int) (n : Int) (l3 : List S43) : List S39 × List Int × Int × List S43 × List Int :=
  if dec_ (runP l0 l1 n l3) = true then (l0, l1, n, (startL l0 l1 l3.length 0 l3 []).1, (startL l0 l1 l3.length 0 l3 []).2) else ([], [], 0, [], [])
theorem runningA_ok {l0 : List S39} {l1 : List Int} {l3 : List S43} (k : Nat) (n : Int) (h : FitsR l0 l1 l3) (hs : suiteOk l0 l1) (hl : l3.length = l0.length) : impl_runningA.f k l0 l1 n l3 = some true := by
  unfold impl_runningA.f
  rw [if_pos ⟨⟨by omega, h.n3, h.s.n2⟩, fun q hq => (hs.2.2.2 q (Nat.zero_le _) (by have := List.mem_range.mp hq; omega)).1.1⟩]
theorem implStart_ev (l0 : List S39) (l1 : List Int) (n : Int) (l3 : List S43) (h : FitsR l0 l1 l3) : Ev (fun k => impl_StartTasks.f k l0 l1 n l3) (startRun l0 l1 n l3) := by
  unfold impl_StartTasks.f startRun
  refine Ev_bind _ (implOkR_ev l0 l1 n l3 h) ?_
  by_cases c : runP l0 l1 n l3
  · rw [dec_true c]
    simp only [if_true]
    refine Ev_bind _ (implCopyR_ev l0 l1 n l3 h) ?_
    simp only [runningA_ok _ n h c.1 c.2.2.1, Option.bind_some]
    exact implStartL_ev l0 l1 n l3.length c.1 h.s c.2.2.1 l3.length 0 l3 [] (by omega) rfl (by simp)
  · rw [dec_false c]
    simp only [Bool.false_eq_true, if_false]
    exact Ev.now _
/-! ### which tasks are stuck -/
def anyIn (out a : List Int) (j : Nat) : Prop := ∃ q : Nat, j ≤ q ∧ q < a.length ∧ rd a (q : Int) ∈ out
def stuckAt (l0 : List S39) (l3 : List S43) (out : List Int) (i : Nat) : Prop := (rd_T43 l3 (i : Int)).f0 = 3 ∨ anyIn out (rd_T39 l0 (i : Int)).f0 0
noncomputable def stuckL (l0 : List S39) (l3 : List S43) : Nat → List Int
  | 0 => []
  | i + 1 => stuckL l0 l3 i ++ (if dec_ (stuckAt l0 l3 (stuckL l0 l3 i) i) = true then [(i : Int) + 1] else [])
theorem stuck_len (l0 : List S39) (l3 : List S43) : ∀ i, (stuckL l0 l3 i).length ≤ i := by
  intro i
  induction i with
  | zero => exact Nat.le_refl _
  | succ i ih =>
    simp only [stuckL, List.length_append]
    split <;> simp <;> omega
theorem stuck_mem (l0 : List S39) (l3 : List S43) : ∀ (i : Nat) (a : Int), a ∈ stuckL l0 l3 i → 1 ≤ a ∧ a ≤ (i : Int) := by
  intro i
  induction i with
  | zero => intro a h; simp [stuckL] at h
  | succ i ih =>
    intro a h
    simp only [stuckL, List.mem_append] at h
    rcases h with h | h
    · have := ih a h; omega
    · split at h
      · simp at h; omega
      · simp at h
/-! ### the reference's search -/
def inFrom (out : List Int) (m : Nat) (v : Int) : Prop := ∃ m' : Nat, m ≤ m' ∧ m' < out.length ∧ rd out (m' : Int) = v
theorem inFrom_mem (out : List Int) (v : Int) : inFrom out 0 v ↔ v ∈ out := by
  constructor
  · rintro ⟨m, _, hm, e⟩
    rw [rd_lt out m hm] at e
    exact e ▸ List.getElem_mem hm
  · intro h
    obtain ⟨m, hm, e⟩ := List.getElem_of_mem h
    exact ⟨m, Nat.zero_le _, hm, by rw [rd_lt out m hm]; exact e⟩
/-! ### the program's table -/
def tabOk (l0 : List S39) (l3 : List S43) (t : List Bool) (i : Nat) : Prop := t.length = l3.length ∧ ∀ q : Nat, q < l3.length → (rdOf false t (q : Int) = true ↔ (q : Int) + 1 ∈ stuckL l0 l3 i)
theorem rdOf_set (t : List Bool) (i q : Nat) (b : Bool) (hi : i < t.length) : rdOf false (t.set i b) (q : Int) = if q = i then b else rdOf false t (q : Int) := by
  unfold rdOf
  rw [Int.toNat_natCast, List.getD_eq_getElem?_getD, List.getD_eq_getElem?_getD]
  by_cases c : q = i
  · subst c; rw [if_pos rfl, List.getElem?_set_self hi]; rfl
  · rw [if_neg c, List.getElem?_set_ne (fun x => c x.symm)]
theorem tab_start (l0 : List S39) (l3 : List S43) : tabOk l0 l3 (List.replicate l3.length false) 0 := by
  refine ⟨List.length_replicate, fun q hq => ?_⟩
  unfold rdOf
  rw [Int.toNat_natCast, List.getD_eq_getElem?_getD, List.getElem?_replicate]
  simp [stuckL]
  split <;> simp
theorem tab_step {l0 : List S39} {l3 : List S43} {t : List Bool} {i : Nat} (h : tabOk l0 l3 t i) (hi : i < l3.length) : tabOk l0 l3 (t.set i (dec_ (stuckAt l0 l3 (stuckL l0 l3 i) i))) (i + 1) := by
  refine ⟨by rw [List.length_set]; exact h.1, fun q hq => ?_⟩
  rw [rdOf_set t i q _ (by rw [h.1]; exact hi)]
  simp only [stuckL, List.mem_append]
  by_cases c : q = i
  · subst c
    rw [if_pos rfl]
    by_cases c2 : dec_ (stuckAt l0 l3 (stuckL l0 l3 q) q) = true
    · rw [if_pos c2]; simp [c2]
    · rw [if_neg c2]
      constructor
      · intro x; exact absurd x c2
      · rintro (x | x)
        · have := stuck_mem l0 l3 q _ x; omega
        · simp at x
  · rw [if_neg c, h.2 q hq]
    constructor
    · exact .inl
    · rintro (x | x)
      · exact x
      · split at x
        · simp at x; omega
        · simp at x
theorem implIdx_ev (t : List Bool) (a : List Int) (ha : a.length ≤ 1048576) (ht : t.length ≤ 1048576) (hb : ∀ q : Nat, q < a.length → 1 ≤ rd a (q : Int) ∧ rd a (q : Int) ≤ (t.length : Int)) : ∀ (d j : Nat), j + d = a.length → ∃ v, Ev (fun k => slices_IndexFunc_int64_int64.l0 k a t (a.length : Int) (j : Int)) v ∧ decide (v ≥ 0) = dec_ (∃ q : Nat, j ≤ q ∧ q < a.length ∧ rdOf false t (rd a (q : Int) - 1) = true) := by
  intro d
  induction d with
  | zero =>
    intro j hj
    refine ⟨-1, Ev.step (f := fun _ => some (-1)) (fun k => ?_) (Ev.now _), ?_⟩
    · simp only [slices_IndexFunc_int64_int64.l0]
      rw [if_neg (by omega)]
    · rw [dec_false (by rintro ⟨q, h1, h2, _⟩; omega)]; rfl
  | succ d ih =>
    intro j hj
    have hbj := hb j (by omega)
    have ew : wrap64 (rd a (j : Int) - 1) = rd a (j : Int) - 1 := w64 (by omega) (by omega)
    have ew2 : wrap64 ((j : Int) + 1) = ((j + 1 : Nat) : Int) := by rw [w64 (by omega) (by omega)]; rfl
    by_cases c : rdOf false t (rd a (j : Int) - 1) = true
    · refine ⟨(j : Int), Ev.step (f := fun _ => some (j : Int)) (fun k => ?_) (Ev.now _), ?_⟩
      · simp only [slices_IndexFunc_int64_int64.l0, ew]
        rw [if_pos (by omega), if_pos (by omega), if_pos (by omega), if_pos (by omega), if_pos (by omega), if_pos c]
      · rw [dec_true ⟨j, Nat.le_refl _, by omega, c⟩, decide_eq_true (by omega)]
    · obtain ⟨v, e, hv⟩ := ih (j + 1) (by omega)
      refine ⟨v, Ev.step (fun k => ?_) e, ?_⟩
      · simp only [slices_IndexFunc_int64_int64.l0, ew, ew2]
        rw [if_pos (by omega), if_pos (by omega), if_pos (by omega), if_pos (by omega), if_pos (by omega), if_neg c]
      · rw [hv]
        refine dec_iff ⟨fun ⟨q, h1, h2, h3⟩ => ⟨q, by omega, h2, h3⟩, fun ⟨q, h1, h2, h3⟩ => ⟨q, ?_, h2, h3⟩⟩
        by_cases c2 : q = j
        · subst c2; exact absurd h3 c
        · omega
theorem implHas_ev {l0 : List S39} {l1 : List Int} {l3 : List S43} {t : List Bool} {i : Nat} (hF : FitsR l0 l1 l3) (hs : suiteOk l0 l1) (hl : l3.length = l0.length) (hi : i < l3.length) (h : tabOk l0 l3 t i) : Ev (fun k => slices_ContainsFunc_int64_int64.f k (rd_T39 l0 (i : Int)).f0 t) (dec_ (anyIn (stuckL l0 l3 i) (rd_T39 l0 (i : Int)).f0 0)) := by
  have hb := after_bd hs hl i hi
  have hn3 := hF.n3
  unfold slices_ContainsFunc_int64_int64.f slices_IndexFunc_int64_int64.f
  obtain ⟨v, e, hv⟩ := implIdx_ev t (rd_T39 l0 (i : Int)).f0 (hF.s.n1 i (by omega)) (by rw [h.1]; exact hn3) (by rw [h.1]; exact hb) (rd_T39 l0 (i : Int)).f0.length 0 (by omega)
  refine Ev_bind _ e ?_
  rw [hv, dec_iff (q := anyIn (stuckL l0 l3 i) (rd_T39 l0 (i : Int)).f0 0)]
  · exact Ev.now _
  · have key : ∀ q : Nat, q < (rd_T39 l0 (i : Int)).f0.length → (rdOf false t (rd (rd_T39 l0 (i : Int)).f0 (q : Int) - 1) = true ↔ rd (rd_T39 l0 (i : Int)).f0 (q : Int) ∈ stuckL l0 l3 i) := by
      intro q hq
      have hbq := hb q hq
      have := h.2 (rd (rd_T39 l0 (i : Int)).f0 (q : Int) - 1).toNat (by omega)
      rw [show (((rd (rd_T39 l0 (i : Int)).f0 (q : Int) - 1).toNat : Nat) : Int) = rd (rd_T39 l0 (i : Int)).f0 (q : Int) - 1 by omega, show rd (rd_T39 l0 (i : Int)).f0 (q : Int) - 1 + 1 = rd (rd_T39 l0 (i : Int)).f0 (q : Int) by omega] at this
      exact this
    exact ⟨fun ⟨q, h1, h2, h3⟩ => ⟨q, h1, h2, (key q h2).mp h3⟩, fun ⟨q, h1, h2, h3⟩ => ⟨q, h1, h2, (key q h2).mpr h3⟩⟩
theorem impl_l0_ev (l0 : List S39) (l1 : List Int) (n : Int) (l3 : List S43) (hF : FitsR l0 l1 l3) (hs : suiteOk l0 l1) (hl : l3.length = l0.length) : ∀ (d i : Nat) (t : List Bool), i + d = l3.length → tabOk l0 l3 t i → Ev (fun k => impl_Stuck.l0 k t (stuckL l0 l3 i) l0 (l0.length : Int) (i : Int) l0 l1 n l3) (stuckL l0 l3 l3.length) := by
  have hn3 := hF.n3
  intro d
  induction d with
  | zero =>
    intro i t hi ht
    have hi' : i = l3.length := by omega
    subst hi'
    refine Ev.step (f := fun _ => some (stuckL l0 l3 l3.length)) (fun k => ?_) (Ev.now _)
    simp only [impl_Stuck.l0]
    rw [if_neg (by omega)]
  | succ d ih =>
    intro i t hi ht
    have hil : i < l3.length := by omega
    have hsl := stuck_len l0 l3 i
    have htl := ht.1
    have ew : wrap64 ((i : Int) + 1) = ((i + 1 : Nat) : Int) := by rw [w64 (by omega) (by omega)]; rfl
    have key := ih (i + 1) _ (by omega) (tab_step ht hil)
    by_cases c : (rd_T43 l3 (i : Int)).f0 = 3
    · rw [dec_true (p := stuckAt l0 l3 (stuckL l0 l3 i) i) (.inl c)] at key
      have e2 : stuckL l0 l3 (i + 1) = stuckL l0 l3 i ++ [((i + 1 : Nat) : Int)] := by simp only [stuckL]; rw [if_pos (dec_true (p := stuckAt l0 l3 (stuckL l0 l3 i) i) (.inl c))]; rfl
      rw [e2] at key
      refine Ev.step (fun k => ?_) key
      simp only [impl_Stuck.l0, ew, Int.toNat_natCast, Option.bind_some, if_true]
      rw [if_pos (by omega), if_pos (by omega), if_pos (by omega), if_pos (by omega), if_pos c, if_pos (by omega), if_pos (by omega)]
    · have eh := implHas_ev hF hs hl hil ht
      rw [show dec_ (anyIn (stuckL l0 l3 i) (rd_T39 l0 (i : Int)).f0 0) = dec_ (stuckAt l0 l3 (stuckL l0 l3 i) i) from dec_iff ⟨fun x => .inr x, fun x => x.resolve_left c⟩] at eh
      refine Ev.step (f := fun k => (slices_ContainsFunc_int64_int64.f k (rd_T39 l0 (i : Int)).f0 t).bind fun b => if b = true then impl_Stuck.l0 k (t.set i b) (stuckL l0 l3 i ++ [((i + 1 : Nat) : Int)]) l0 (l0.length : Int) ((i + 1 : Nat) : Int) l0 l1 n l3 else impl_Stuck.l0 k (t.set i b) (stuckL l0 l3 i) l0 (l0.length : Int) ((i + 1 : Nat) : Int) l0 l1 n l3) (fun k => ?_) (Ev_bind _ eh ?_)
      · simp only [impl_Stuck.l0, ew, Int.toNat_natCast, Option.bind_some]
        rw [if_pos (by omega), if_pos (by omega), if_pos (by omega), if_pos (by omega), if_neg c]
        simp only [if_pos (show (i : Int) < (t.length : Int) by omega), if_pos (show (stuckL l0 l3 i).length < 17592186044416 by omega)]
      · by_cases c2 : dec_ (stuckAt l0 l3 (stuckL l0 l3 i) i) = true
        · have e2 : stuckL l0 l3 (i + 1) = stuckL l0 l3 i ++ [((i + 1 : Nat) : Int)] := by simp only [stuckL]; rw [if_pos c2]; rfl
          rw [e2] at key
          simp only [if_pos c2]
          exact key
        · have e2 : stuckL l0 l3 (i + 1) = stuckL l0 l3 i := by simp only [stuckL]; rw [if_neg c2, List.append_nil]
          rw [e2] at key
          simp only [if_neg c2]
          exact key
noncomputable def stuckRun (l0 : List S39) (l1 : List Int) (n : Int) (l3 : List S43) : List Int := if dec_ (runP l0 l1 n l3) = true then stuckL l0 l3 l3.length else []
theorem implStuck_ev (l0 : List S39) (l1 : List Int) (n : Int) (l3 : List S43) (h : FitsR l0 l1 l3) : Ev (fun k => impl_Stuck.f k l0 l1 n l3) (stuckRun l0 l1 n l3) := by
  have hn3 := h.n3
  unfold impl_Stuck.f stuckRun
  refine Ev_bind _ (implOkR_ev l0 l1 n l3 h) ?_
  by_cases c : runP l0 l1 n l3
  · rw [dec_true c]
    simp only [if_true, if_pos (show (0 : Int) ≤ (l3.length : Int) by omega), Int.toNat_natCast, if_pos (show l3.length ≤ 281474976710656 by omega)]
    exact impl_l0_ev l0 l1 n l3 h c.1 c.2.2.1 l3.length 0 _ (by omega) (tab_start l0 l3)
  · rw [dec_false c]
    simp only [Bool.false_eq_true, if_false]
    exact Ev.now _
/-! ### what a start begins, told of the run ahead of it -/
theorem startL_inv {l0 : List S39} {l1 : List Int} {n : Int} : ∀ (d i : Nat) (x : List S43) (bg : List Int), i + d = x.length → runP l0 l1 n x →
    runP l0 l1 n (startL l0 l1 d i x bg).1 ∧ (startL l0 l1 d i x bg).1.length = x.length ∧ ∃ new : List Int, (startL l0 l1 d i x bg).2 = bg ++ new ∧ (∀ q : Nat, q < x.length → (rd_T43 (startL l0 l1 d i x bg).1 (q : Int)).f0 = if ((q : Int) + 1) ∈ new then 1 else (rd_T43 x (q : Int)).f0) ∧
      (∀ a ∈ new, ∃ q : Nat, i ≤ q ∧ q < x.length ∧ a = (q : Int) + 1 ∧ (rd_T43 x (q : Int)).f0 = 0 ∧ freeFrom x (rd_T39 l0 (q : Int)).f0 0) ∧ new.Nodup := by
  intro d
  induction d with
  | zero => intro i x bg hi h; exact ⟨h, rfl, [], by simp [startL], fun q hq => by simp [startL], fun a ha => by simp at ha, List.nodup_nil⟩
  | succ d ih =>
    intro i x bg hi h
    have hil : i < x.length := by omega
    simp only [startL]
    by_cases c : begins l0 l1 x i
    · rw [if_pos (dec_true c)]
      have hv := ((jOk_iff l0 x i).mp (h.2.2.2.1 i (Nat.zero_le _) hil)).1
      have hm := (h.1.2.2.2 i (Nat.zero_le _) (by have := h.2.2.1; omega)).1.2.2
      have ew : wrap64 ((rd_T43 x (i : Int)).f1 + 1) = (rd_T43 x (i : Int)).f1 + 1 := w64 (by have := hv.2.1; omega) (by have := hv.2.1; omega)
      have h' := runP_start h i hil c.1 c.2.1 c.2.2
      rw [ew]
      obtain ⟨r1, r2, new, e1, e2, e3, e4⟩ := ih (i + 1) (x.set i ⟨1, (rd_T43 x (i : Int)).f1 + 1⟩) (bg ++ [((i + 1 : Nat) : Int)]) (by rw [List.length_set]; omega) h'
      refine ⟨r1, by rw [r2, List.length_set], ((i + 1 : Nat) : Int) :: new, by rw [e1]; simp, fun q hq => ?_, fun a ha => ?_, ?_⟩
      · rw [e2 q (by simpa using hq), rdJ_set x i q _ hq]
        by_cases c1 : ((q : Int) + 1) ∈ new
        · rw [if_pos c1, if_pos (List.mem_cons_of_mem _ c1)]
        · rw [if_neg c1]
          by_cases c2 : i = q
          · subst c2
            rw [if_pos rfl, if_pos (by simp)]
          · rw [if_neg c2, if_neg]
            intro hm2
            rcases List.mem_cons.mp hm2 with e | e
            · exact c2 (by omega)
            · exact c1 e
      · rcases List.mem_cons.mp ha with rfl | ha
        · exact ⟨i, Nat.le_refl _, hil, by omega, c.1, c.2.1⟩
        · obtain ⟨q, q1, q2, q3, q4, q5⟩ := e3 a ha
          have q2' : q < x.length := by simpa using q2
          rw [rdJ_set x i q _ q2', if_neg (by omega)] at q4
          refine ⟨q, by omega, q2', q3, q4, fun z h1 hz => ?_⟩
          obtain ⟨p, hp, hpq⟩ := after_at h.1 h.2.2.1 q q2' z hz
          have := q5 z h1 hz
          rw [hp] at this ⊢
          rw [rdJ_set x i p _ (by omega)] at this
          by_cases c3 : i = p
          · rw [if_pos c3] at this; exact absurd (show (1 : Int) = 2 from this) (by decide)
          · rw [if_neg c3] at this; exact this
      · refine List.nodup_cons.mpr ⟨fun hmem => ?_, e4⟩
        obtain ⟨q, q1, _, q3, _⟩ := e3 _ hmem
        omega
    · rw [if_neg (fun z => by rw [dec_false c] at z; cases z)]
      obtain ⟨r1, r2, new, e1, e2, e3, e4⟩ := ih (i + 1) x bg (by omega) h
      exact ⟨r1, r2, new, e1, e2, fun a ha => by obtain ⟨q, q1, q2⟩ := e3 a ha; exact ⟨q, by omega, q2⟩, e4⟩
theorem startL_ge (l0 : List S39) (l1 : List Int) : ∀ (d i : Nat) (x : List S43) (bg : List Int), bg.length ≤ (startL l0 l1 d i x bg).2.length := by
  intro d
  induction d with
  | zero => intro i x bg; exact Nat.le_refl _
  | succ d ih =>
    intro i x bg
    unfold startL
    by_cases c : dec_ (begins l0 l1 x i) = true
    · rw [if_pos c]
      exact Nat.le_trans (by rw [List.length_append]; omega) (ih (i + 1) (x.set i ⟨1, wrap64 ((rd_T43 x (i : Int)).f1 + 1)⟩) (bg ++ [((i + 1 : Nat) : Int)]))
    · rw [if_neg c]
      exact ih (i + 1) x bg
theorem startL_none (l0 : List S39) (l1 : List Int) : ∀ (d i : Nat) (x : List S43) (bg : List Int), (startL l0 l1 d i x bg).2.length = bg.length → startL l0 l1 d i x bg = (x, bg) ∧ ∀ q : Nat, i ≤ q → q < i + d → ¬ begins l0 l1 x q := by
  intro d
  induction d with
  | zero => intro i x bg _; exact ⟨rfl, fun q h1 h2 => by omega⟩
  | succ d ih =>
    intro i x bg h
    simp only [startL] at h ⊢
    by_cases c : begins l0 l1 x i
    · rw [if_pos (dec_true c)] at h
      have := startL_ge l0 l1 d (i + 1) (x.set i ⟨1, wrap64 ((rd_T43 x (i : Int)).f1 + 1)⟩) (bg ++ [((i + 1 : Nat) : Int)])
      rw [List.length_append, List.length_singleton] at this; omega
    · have hn : ¬ (dec_ (begins l0 l1 x i) = true) := fun z => by rw [dec_false c] at z; cases z
      rw [if_neg hn] at h ⊢
      obtain ⟨e1, e2⟩ := ih (i + 1) x bg h
      refine ⟨e1, fun q h1 h2 => ?_⟩
      by_cases c2 : q = i
      · subst c2; exact c
      · exact e2 q (by omega) (by omega)
theorem startL_quiet (l0 : List S39) (l1 : List Int) : ∀ (d i : Nat) (x : List S43) (bg : List Int), (∀ q : Nat, i ≤ q → q < i + d → ¬ begins l0 l1 x q) → startL l0 l1 d i x bg = (x, bg) := by
  intro d
  induction d with
  | zero => intro i x bg _; rfl
  | succ d ih =>
    intro i x bg h
    simp only [startL]
    rw [if_neg (fun z => by rw [dec_false (h i (Nat.le_refl _) (by omega))] at z; cases z)]
    exact ih (i + 1) x bg (fun q h1 h2 => h q (by omega) (by omega))
def Quiet (l0 : List S39) (l1 : List Int) (x : List S43) : Prop := (∀ q : Nat, q < x.length → (rd_T43 x (q : Int)).f0 ≠ 1) ∧ ∀ q : Nat, q < x.length → ¬ begins l0 l1 x q
/-! ### what is stuck at last -/
theorem stuck_stage (l0 : List S39) (x : List S43) : ∀ (i q : Nat), q < i → ((q : Int) + 1 ∈ stuckL l0 x i ↔ stuckAt l0 x (stuckL l0 x q) q) := by
  intro i
  induction i with
  | zero => intro q h; omega
  | succ i ih =>
    intro q h
    simp only [stuckL, List.mem_append]
    by_cases c : q = i
    · subst c
      constructor
      · rintro (z | z)
        · have := stuck_mem l0 x q _ z; omega
        · by_cases c2 : stuckAt l0 x (stuckL l0 x q) q
          · exact c2
          · rw [if_neg (fun w => by rw [dec_false c2] at w; cases w)] at z; simp at z
      · intro z
        rw [if_pos (dec_true z)]
        exact .inr (by simp)
    · rw [← ih q (by omega)]
      constructor
      · rintro (z | z)
        · exact z
        · split at z
          · simp at z; omega
          · simp at z
      · exact .inl
theorem stuck_iff {l0 : List S39} {l1 : List Int} {n : Int} {x : List S43} (h : runP l0 l1 n x) (hq : Quiet l0 l1 x) : ∀ (m q : Nat), q < m → q < x.length → (stuckAt l0 x (stuckL l0 x q) q ↔ (rd_T43 x (q : Int)).f0 ≠ 2) := by
  intro m
  induction m with
  | zero => intro q h1; omega
  | succ m ih =>
    intro q h1 h2
    have hj := (jOk_iff l0 x q).mp (h.2.2.2.1 q (Nat.zero_le _) h2)
    have hl := h.2.2.1
    have key : anyIn (stuckL l0 x q) (rd_T39 l0 (q : Int)).f0 0 ↔ ¬ freeFrom x (rd_T39 l0 (q : Int)).f0 0 := by
      constructor
      · rintro ⟨z, _, z2, z3⟩ hf
        obtain ⟨p, hp, hpq⟩ := after_at h.1 hl q h2 z z2
        have e : rd (rd_T39 l0 (q : Int)).f0 (z : Int) = (p : Int) + 1 := by omega
        rw [e, stuck_stage l0 x q p hpq, ih p (by omega) (by omega)] at z3
        have := hf z (Nat.zero_le _) z2
        rw [hp] at this
        exact z3 this
      · intro hf
        apply Classical.byContradiction
        intro hn
        refine hf (fun z z1 z2 => ?_)
        obtain ⟨p, hp, hpq⟩ := after_at h.1 hl q h2 z z2
        rw [hp]
        apply Classical.byContradiction
        intro hne
        refine hn ⟨z, Nat.zero_le _, z2, ?_⟩
        have e : rd (rd_T39 l0 (q : Int)).f0 (z : Int) = (p : Int) + 1 := by omega
        rw [e, stuck_stage l0 x q p hpq, ih p (by omega) (by omega)]
        exact hne
    unfold stuckAt
    rw [key]
    constructor
    · rintro (z | z) h2'
      · omega
      · exact z (hj.2 (by omega))
    · intro z
      have hb := hj.1.1
      by_cases c3 : (rd_T43 x (q : Int)).f0 = 3
      · exact .inl c3
      · have h1' := hq.1 q h2
        have h0 : (rd_T43 x (q : Int)).f0 = 0 := by omega
        refine .inr (fun hf => hq.2 q h2 ⟨h0, hf, ?_⟩)
        have hg := (h.1.2.2.2 q (Nat.zero_le _) (by omega)).1.1
        have hlim := (h.1.2.2.1 ((rd_T39 l0 (q : Int)).f1 - 1).toNat (Nat.zero_le _) (by omega)).1
        rw [show ((((rd_T39 l0 (q : Int)).f1 - 1).toNat : Nat) : Int) = (rd_T39 l0 (q : Int)).f1 - 1 by omega] at hlim
        have hc : ¬ 0 < cntG l0 x (rd_T39 l0 (q : Int)).f1 x.length := fun w => by
          obtain ⟨p, hp, hp1, _⟩ := cntG_pos _ w
          exact hq.1 p hp hp1
        omega
/-! ### how many are neither done nor lost -/
def wC (x : List S43) : Nat → Nat
  | 0 => 0
  | n + 1 => wC x n + (if (rd_T43 x (n : Int)).f0 = 0 ∨ (rd_T43 x (n : Int)).f0 = 1 then 1 else 0)
theorem wC_le (x : List S43) : ∀ n, wC x n ≤ n := by
  intro n
  induction n with
  | zero => exact Nat.le_refl _
  | succ n ih => simp only [wC]; split <;> omega
theorem wC_congr (x y : List S43) : ∀ n, (∀ q : Nat, q < n → (((rd_T43 x (q : Int)).f0 = 0 ∨ (rd_T43 x (q : Int)).f0 = 1) ↔ ((rd_T43 y (q : Int)).f0 = 0 ∨ (rd_T43 y (q : Int)).f0 = 1))) → wC x n = wC y n := by
  intro n
  induction n with
  | zero => intro _; rfl
  | succ n ih =>
    intro h
    simp only [wC]
    rw [ih (fun q hq => h q (by omega))]
    by_cases c : (rd_T43 x (n : Int)).f0 = 0 ∨ (rd_T43 x (n : Int)).f0 = 1
    · rw [if_pos c, if_pos ((h n (by omega)).mp c)]
    · rw [if_neg c, if_neg (fun z => c ((h n (by omega)).mpr z))]
theorem wC_upd (x : List S43) (i : Nat) (v : S43) (hi : i < x.length) (h1 : (rd_T43 x (i : Int)).f0 = 1) (hv : ¬ (v.f0 = 0 ∨ v.f0 = 1)) : ∀ n : Nat, n ≤ x.length → wC (x.set i v) n + (if i < n then 1 else 0) = wC x n := by
  intro n
  induction n with
  | zero => intro _; simp [wC]
  | succ n ih =>
    intro hn
    have := ih (by omega)
    simp only [wC]
    rw [rdJ_set x i n v (by omega)]
    by_cases c : i = n
    · subst c
      rw [if_pos rfl, if_neg hv, if_pos (Or.inr h1 : (rd_T43 x (i : Int)).f0 = 0 ∨ (rd_T43 x (i : Int)).f0 = 1), if_pos (Nat.lt_succ_self _)]
      rw [if_neg (Nat.lt_irrefl _)] at this
      omega
    · rw [if_neg c]
      by_cases c2 : i < n
      · rw [if_pos c2] at this; rw [if_pos (show i < n + 1 by omega)]; omega
      · rw [if_neg c2] at this; rw [if_neg (show ¬ i < n + 1 by omega)]; omega
end Go.Proofs.Ytjoghfehmhapbaa.QFnSuiteOnce
