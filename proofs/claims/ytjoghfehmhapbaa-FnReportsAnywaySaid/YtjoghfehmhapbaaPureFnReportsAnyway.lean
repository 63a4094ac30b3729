/- FnReportsAnyway, plainly: two tasks that run, reported in either order, leave the same run. No condition. -/
import Derived.Test.YtjoghfehmhapbaaRunDrawDFnReportsAnyway
import Derived.Test.YtjoghfehmhapbaaStatFnReportsAnyway
set_option linter.unusedVariables false
set_option linter.unusedSimpArgs false
namespace Go.Proofs.Ytjoghfehmhapbaa.QFnReportsAnyway
open Go.RowKit Go.Proofs.YtjoghfehmhapbaaW.PrintWords Go.Proofs.YtjoghfehmhapbaaW.PrintMore Go.Proofs.Ytjoghfehmhapbaa.Opn Go.Proofs.Ytjoghfehmhapbaa.Pl

theorem implRep_ev (l0 : List S39) (l1 : List Int) (n : Int) (l3 : List S43) (a : Int) (ok : Bool) (h : FitsR l0 l1 l3) : Ev (fun k => impl_Report.f k l0 l1 n l3 a ok) (repRun l0 l1 n l3 a ok) := by
  have bad : Ev (fun k => impl_Report.j0 k a ok true l0 l1 n l3 l0 l1 n l3) (l0, l1, n, l3, false) := Ev.step (f := fun _ => some (l0, l1, n, l3, false)) (fun k => by simp only [impl_Report.j0, if_true]) (Ev.now _)
  have hn3 := h.n3
  unfold impl_Report.f repRun
  refine Ev_bind _ (implOkR_ev l0 l1 n l3 h) ?_
  by_cases c : runP l0 l1 n l3
  · rw [dec_true c]
    simp only [if_true]
    refine Ev_bind _ (implCopyR_ev l0 l1 n l3 h) ?_
    simp only [implIn, Option.bind_some]
    by_cases c1 : 1 ≤ a ∧ a ≤ (l3.length : Int)
    · have ew : wrap64 (a - 1) = a - 1 := w64 (by omega) (by omega)
      simp only [decide_eq_true c1, if_true, ew, if_pos (show 0 ≤ a - 1 by omega), if_pos (show a - 1 < (l3.length : Int) by omega)]
      by_cases c2 : (rd_T43 l3 (a - 1)).f0 = 1
      · rw [if_pos ⟨c1, c2⟩, show ((rd_T43 l3 (a - 1)).f0 != 1) = false from bne_eq_false_iff_eq.mpr c2]
        refine Ev.step (f := fun _ => some (l0, l1, n, l3.set (a - 1).toNat ⟨repHow l0 l3 a ok, (rd_T43 l3 (a - 1)).f1⟩, true)) (fun k => ?_) (Ev.now _)
        have hl := c.2.2.1
        simp only [impl_Report.j0, Bool.false_eq_true, if_false, ew, if_pos (show 0 ≤ a - 1 by omega), if_pos (show a - 1 < (l3.length : Int) by omega), if_pos (show a - 1 < (l0.length : Int) by omega), repHow]
        by_cases c3 : ok = true
        · rw [if_pos c3, if_pos c3]
        · rw [if_neg c3, if_neg c3]
          by_cases c4 : (rd_T43 l3 (a - 1)).f1 = (rd_T39 l0 (a - 1)).f3
          · rw [if_pos c4, if_pos c4]
          · rw [if_neg c4, if_neg c4]
      · rw [if_neg (fun x => c2 x.2), show ((rd_T43 l3 (a - 1)).f0 != 1) = true from bne_iff_ne.mpr c2]
        exact bad
    · rw [if_neg (fun x => c1 x.1)]
      simp only [decide_eq_false c1, Bool.false_eq_true, if_false]
      exact bad
  · rw [dec_false c]
    simp only [Bool.false_eq_true, if_false]
    exact Ev.now _
theorem sameJ_ev (l : List S43) (hl : l.length ≤ 1048576) : Ev (fun k => laws_sameJobs.f k l l) true := by
  unfold laws_sameJobs.f
  simp only [if_true]
  exact Ev_up (fun k i => laws_sameJobs.l0 k l l (i : Int)) (fun _ => true) l.length (by
      refine Ev.step (f := fun _ => some true) (fun k => ?_) (Ev.now _)
      simp only [laws_sameJobs.l0]
      rw [if_neg (by omega)]) (by
      intro i hi ih
      refine Ev.step (fun k => ?_) ih
      simp only [laws_sameJobs.l0]
      rw [if_pos (by omega), if_pos (by omega), if_pos (by omega), if_neg (by simp), w64 (n := (i : Int) + 1) (by omega) (by omega)]
      rfl) 0 (Nat.zero_le _)


theorem rep_at {l0 : List S39} {l1 : List Int} {n : Int} {l3 : List S43} (h : runP l0 l1 n l3) (i : Nat) (hi : i < l3.length) (h1 : (rd_T43 l3 (i : Int)).f0 = 1) (ok : Bool) :
    repRun l0 l1 n l3 ((i : Int) + 1) ok = (l0, l1, n, l3.set i ⟨repHow l0 l3 ((i : Int) + 1) ok, (rd_T43 l3 (i : Int)).f1⟩, true) ∧ runP l0 l1 n (l3.set i ⟨repHow l0 l3 ((i : Int) + 1) ok, (rd_T43 l3 (i : Int)).f1⟩) := by
  have e : repRun l0 l1 n l3 ((i : Int) + 1) ok = (l0, l1, n, l3.set i ⟨repHow l0 l3 ((i : Int) + 1) ok, (rd_T43 l3 (i : Int)).f1⟩, true) := by
    unfold repRun
    have ei : (i : Int) + 1 - 1 = (i : Int) := by omega
    rw [if_pos (dec_true h), ei, if_pos ⟨⟨by omega, by omega⟩, h1⟩, Int.toNat_natCast]
  refine ⟨e, ?_⟩
  obtain ⟨y3, o, e2, hr⟩ := rep_good h ((i : Int) + 1) ok
  rw [e] at e2
  have e3 := congrArg (fun x => x.2.2.2.1) e2
  simp only at e3
  rw [e3]; exact hr
theorem how_eq (l0 : List S39) (l3 : List S43) (i j : Nat) (v : S43) (hij : i ≠ j) (hj : j < l3.length) (ok : Bool) : repHow l0 (l3.set i v) ((j : Int) + 1) ok = repHow l0 l3 ((j : Int) + 1) ok := by
  unfold repHow
  rw [show (j : Int) + 1 - 1 = (j : Int) by omega, rdJ_set l3 i j v hj, if_neg hij]
theorem two_ev {l0 : List S39} {l1 : List Int} {n : Int} {l3 : List S43} (hf : FitsR l0 l1 l3) (h : runP l0 l1 n l3) (i j : Nat) (hij : i ≠ j) (hi : i < l3.length) (hj : j < l3.length) (h1 : (rd_T43 l3 (i : Int)).f0 = 1) (h2 : (rd_T43 l3 (j : Int)).f0 = 1) (p q : Bool) :
    Ev (fun k => impl_Report.f k l0 l1 n l3 ((i : Int) + 1) p) (l0, l1, n, l3.set i ⟨repHow l0 l3 ((i : Int) + 1) p, (rd_T43 l3 (i : Int)).f1⟩, true) ∧
    Ev (fun k => impl_Report.f k l0 l1 n (l3.set i ⟨repHow l0 l3 ((i : Int) + 1) p, (rd_T43 l3 (i : Int)).f1⟩) ((j : Int) + 1) q) (l0, l1, n, (l3.set i ⟨repHow l0 l3 ((i : Int) + 1) p, (rd_T43 l3 (i : Int)).f1⟩).set j ⟨repHow l0 l3 ((j : Int) + 1) q, (rd_T43 l3 (j : Int)).f1⟩, true) := by
  obtain ⟨e1, r1⟩ := rep_at h i hi h1 p
  have ea := implRep_ev l0 l1 n l3 ((i : Int) + 1) p hf
  rw [e1] at ea
  refine ⟨ea, ?_⟩
  generalize hv : (⟨repHow l0 l3 ((i : Int) + 1) p, (rd_T43 l3 (i : Int)).f1⟩ : S43) = v at r1
  have hj' : j < (l3.set i v).length := by simpa using hj
  have h2' : (rd_T43 (l3.set i v) (j : Int)) = rd_T43 l3 (j : Int) := by rw [rdJ_set l3 i j v hj, if_neg hij]
  obtain ⟨e2, _⟩ := rep_at r1 j hj' (by rw [h2']; exact h2) q
  have eb := implRep_ev l0 l1 n (l3.set i v) ((j : Int) + 1) q ⟨hf.s, by simpa using hf.n3⟩
  rw [e2, how_eq l0 l3 i j v hij hj q, h2'] at eb
  exact eb

/-- What the law's first loop has found: a and b are 0 or tell running tasks, a ahead of b. -/
def seen2 (l3 : List S43) (a b : Int) (i : Nat) : Prop :=
  (a = 0 ∨ ∃ q : Nat, a = (q : Int) + 1 ∧ a < b ∧ (rd_T43 l3 (q : Int)).f0 = 1) ∧ (b = 0 ∨ ∃ q : Nat, b = (q : Int) + 1 ∧ q < i ∧ (rd_T43 l3 (q : Int)).f0 = 1)
theorem j1_true (ok : Bool) (a b n : Int) (l0 : List S39) (l1 : List Int) (l3 : List S43) : Ev (fun k => laws_FnReportsAnyway.j1 k ok a b true l0 l1 n l3) true :=
  Ev.step (f := fun _ => some true) (fun k => by simp only [laws_FnReportsAnyway.j1, if_true]) (Ev.now _)
theorem end_ev {l0 : List S39} {l1 : List Int} {l3 : List S43} (n : Int) (ok : Bool) (hf : FitsR l0 l1 l3) (a b : Int) (hs : seen2 l3 a b l3.length) :
    Ev (fun k => (spec_Report.f k l0 l1 n l3 a ok).bind fun bt555 => (if bt555.2.2.2.2 = true then (laws_FnReportsAnyway.j1 k ok a b (a == 0) l0 l1 n l3) else (laws_FnReportsAnyway.j1 k ok a b true l0 l1 n l3))) true := by
  have eS := specRep_ev l0 l1 n l3 a ok hf
  have hn3 := hf.n3
  refine Ev_bind _ eS ?_
  by_cases c : (repRun l0 l1 n l3 a ok).2.2.2.2 = true
  · simp only [c, if_true]
    rcases hs.1 with ha | ⟨i, ha, hab, h1⟩
    · rw [show (a == 0) = true by rw [ha]; rfl]; exact j1_true _ _ _ _ _ _ _
    have hr : runP l0 l1 n l3 := by
      by_cases hr : runP l0 l1 n l3
      · exact hr
      · unfold repRun at c; rw [dec_false hr, if_neg (by decide)] at c; cases c
    rcases hs.2 with hb | ⟨j, hb, hj, h2⟩
    · omega
    have hi : i < l3.length := by omega
    have hij : i ≠ j := by omega
    rw [show (a == 0) = false from beq_eq_false_iff_ne.mpr (by omega)]
    obtain ⟨ea, eb⟩ := two_ev hf hr i j hij hi hj h1 h2 ok (!ok)
    obtain ⟨ec, ed⟩ := two_ev hf hr j i (Ne.symm hij) hj hi h2 h1 (!ok) ok
    rw [← ha] at ea
    rw [← ha, ← hb] at eb
    rw [← hb] at ec
    rw [← ha, ← hb] at ed
    rw [List.set_comm _ _ (Ne.symm hij)] at ed
    refine Ev.step (fun k => by simp only [laws_FnReportsAnyway.j1, Bool.false_eq_true, if_false]; rfl) ?_
    refine Ev_bind _ ea (Ev_bind _ eb (Ev_bind _ ec (Ev_bind _ ed ?_)))
    simp only [if_true]
    refine Ev_bind _ (sameJ_ev _ (by simpa using hn3)) ?_
    simp only [if_true, List.length_set, beq_self_eq_true]
    exact Ev.now _
  · simp only [c, if_false]
    exact j1_true _ _ _ _ _ _ _
theorem loop_ev {l0 : List S39} {l1 : List Int} {l3 : List S43} (n : Int) (ok : Bool) (hf : FitsR l0 l1 l3) : ∀ (d i : Nat) (a b : Int), i + d = l3.length → seen2 l3 a b i → Ev (fun k => laws_FnReportsAnyway.l0 k ok a b (i : Int) l0 l1 n l3) true := by
  have hn3 := hf.n3
  intro d
  induction d with
  | zero =>
    intro i a b hi hs
    have hi' : i = l3.length := by omega
    subst hi'
    refine Ev.step (fun k => by simp only [laws_FnReportsAnyway.l0]; rw [if_neg (by omega)]) (end_ev n ok hf a b hs)
  | succ d ih =>
    intro i a b hi hs
    have ew : wrap64 ((i : Int) + 1) = ((i + 1 : Nat) : Int) := by rw [w64 (by omega) (by omega)]; rfl
    by_cases c : (rd_T43 l3 (i : Int)).f0 = 1
    · refine Ev.step (fun k => by simp only [laws_FnReportsAnyway.l0, ew]; rw [if_pos (by omega), if_pos (by omega), if_pos c]) (ih (i + 1) b ((i + 1 : Nat) : Int) (by omega) ⟨?_, .inr ⟨i, by omega, by omega, c⟩⟩)
      rcases hs.2 with hb | ⟨q, hb, hq, h1⟩
      · exact .inl hb
      · exact .inr ⟨q, hb, by omega, h1⟩
    · refine Ev.step (fun k => by simp only [laws_FnReportsAnyway.l0, ew]; rw [if_pos (by omega), if_pos (by omega), if_neg c]) (ih (i + 1) a b (by omega) ⟨hs.1, ?_⟩)
      rcases hs.2 with hb | ⟨q, hb, hq, h1⟩
      · exact .inl hb
      · exact .inr ⟨q, hb, by omega, h1⟩

/-! ### the draw -/
theorem drLoop_ev (c : List Int) (l0 : List S39) (l1 : List Int) (n : Int) (l3 : List S43) (h3 : l3.length ≤ 1048576) : ∀ (d i : Nat) (x p : Int), i + d = l3.length → RdOk c p → ∃ t o, Ev (fun k => spec_DrawReport.l0 k x (i : Int) c p l0 l1 n l3) (l0, l1, n, l3, t, o) := by
  intro d
  induction d with
  | zero =>
    intro i x p hi hp
    obtain ⟨o, p2, e2, _⟩ := rdOnce hp 2 (by omega)
    exact ⟨x, o, Ev.step (f := fun _ => some (l0, l1, n, l3, x, o)) (fun k => by simp only [spec_DrawReport.l0]; rw [if_neg (by omega), e2]; rfl) (Ev.now _)⟩
  | succ d ih =>
    intro i x p hi hp
    have ew : wrap64 ((i : Int) + 1) = ((i + 1 : Nat) : Int) := by rw [w64 (by omega) (by omega)]; rfl
    by_cases cc : (rd_T43 l3 (i : Int)).f0 = 1
    · obtain ⟨o, p2, e2, r2⟩ := rdOnce hp 2 (by omega)
      cases o with
      | true =>
        obtain ⟨t, o', e⟩ := ih (i + 1) ((i + 1 : Nat) : Int) p2 (by omega) r2
        exact ⟨t, o', Ev.step (fun k => by simp only [spec_DrawReport.l0, ew]; rw [if_pos (by omega), if_pos (by omega), if_pos cc, e2]; simp only [Option.bind_some, if_true]) e⟩
      | false =>
        obtain ⟨t, o', e⟩ := ih (i + 1) x p2 (by omega) r2
        exact ⟨t, o', Ev.step (fun k => by simp only [spec_DrawReport.l0, ew]; rw [if_pos (by omega), if_pos (by omega), if_pos cc, e2]; simp only [Option.bind_some, Bool.false_eq_true, if_false]) e⟩
    · obtain ⟨t, o', e⟩ := ih (i + 1) x p (by omega) hp
      exact ⟨t, o', Ev.step (fun k => by simp only [spec_DrawReport.l0, ew]; rw [if_pos (by omega), if_pos (by omega), if_neg cc]) e⟩
theorem drawRep_ev (c : List Int) (hc : RdOk c 0) : ∃ l0 l1 n l3 t o, Ev (fun k => spec_DrawReport.f k c) (l0, l1, n, l3, t, o) ∧ FitsR l0 l1 l3 := by
  obtain ⟨l0, l1, n, l3, p1, e1, hf, r1⟩ := draw_ev c 0 hc
  have hn3 := hf.n3
  have ew : wrap64 ((l3.length : Int) + 2) = (l3.length : Int) + 2 := w64 (by omega) (by omega)
  obtain ⟨v, p2, e2, _, _, r2⟩ := rdBelow r1 ((l3.length : Int) + 2) (by omega)
  obtain ⟨o, p3, e3, r3⟩ := rdOnce r2 4 (by omega)
  unfold spec_DrawReport.f spec_l1Open.f
  cases o with
  | true =>
    obtain ⟨o2, p4, e4, _⟩ := rdOnce r3 2 (by omega)
    refine ⟨l0, l1, n, l3, v, o2, ?_, hf⟩
    simp only [Option.bind_some]
    refine Ev_bind _ e1 ?_
    simp only [ew, e2, Option.bind_some, e3, if_true, e4]
    exact Ev.now _
  | false =>
    obtain ⟨t, o2, e4⟩ := drLoop_ev c l0 l1 n l3 hn3 l3.length 0 v p3 (by omega) r3
    refine ⟨l0, l1, n, l3, t, o2, ?_, hf⟩
    simp only [Option.bind_some]
    refine Ev_bind _ e1 ?_
    simp only [ew, e2, Option.bind_some, e3, Bool.false_eq_true, if_false]
    exact e4

theorem Pure.FnReportsAnyway : FnReportsAnyway_Pure := by
  intro c w0
  refine Ev.rounds (g := fun k => laws_FnReportsAnyway.f k c) ?_
  unfold laws_FnReportsAnyway.f laws_big.f
  simp only [Option.bind_some]
  by_cases b1 : (c.length : Int) > 1048576
  · simp only [decide_eq_true b1, if_true]; exact Ev.now _
  simp only [decide_eq_false b1, Bool.false_eq_true, if_false]
  obtain ⟨l0, l1, n, l3, t, ok, ed, hf⟩ := drawRep_ev c (rdOk_start (by omega) (fun x hx => w0.2 x hx))
  refine Ev_bind _ ed ?_
  exact loop_ev n ok hf l3.length 0 0 0 (by omega) ⟨.inl rfl, .inl rfl⟩
end Go.Proofs.Ytjoghfehmhapbaa.QFnReportsAnyway
