/- Drawn suites and runs, plainly: whatever bytes they are drawn from, a suite is good, a run is good; a run that is spoilt is small. -/
import Derived.Test.YtjoghfehmhapbaaRunSpecsDFnReportsAnyway
import Derived.Test.YtjoghfehmhapbaaRdFnReportsAnyway
set_option linter.unusedVariables false
set_option linter.unusedSimpArgs false
namespace Go.Proofs.Ytjoghfehmhapbaa.QFnReportsAnyway
open Go.RowKit Go.Proofs.YtjoghfehmhapbaaW.PrintWords Go.Proofs.YtjoghfehmhapbaaW.PrintMore Go.Proofs.Ytjoghfehmhapbaa.Opn Go.Proofs.Ytjoghfehmhapbaa.Pl

theorem rd_snoc (a : List Int) (v : Int) (q : Nat) (h : q < a.length + 1) : rd (a ++ [v]) (q : Int) = if q < a.length then rd a (q : Int) else v := by
  rw [rd_lt _ q (by simpa using h)]
  by_cases c : q < a.length
  · rw [if_pos c, rd_lt a q c, List.getElem_append_left c]
  · rw [if_neg c, List.getElem_append_right (by omega)]
    simp
theorem rdT_snoc (a : List S39) (v : S39) (q : Nat) (h : q < a.length + 1) : rd_T39 (a ++ [v]) (q : Int) = if q < a.length then rd_T39 a (q : Int) else v := by
  rw [rdT39 _ q (by simpa using h)]
  by_cases c : q < a.length
  · rw [if_pos c, rdT39 a q c, List.getElem_append_left c]
  · rw [if_neg c, List.getElem_append_right (by omega)]
    simp
def aft (a : List Int) (j : Nat) : Prop := a.length ≤ j ∧ ∀ q : Nat, q < a.length → (1 ≤ rd a (q : Int) ∧ rd a (q : Int) < (j : Int)) ∧ (0 < q → rd a ((q - 1 : Nat) : Int) < rd a (q : Int))
theorem aft_nil : aft [] 1 := ⟨by simp, fun q h => by simp at h⟩
theorem aft_stay {a : List Int} {j : Nat} (h : aft a j) : aft a (j + 1) := ⟨by have := h.1; omega, fun q hq => ⟨⟨(h.2 q hq).1.1, by have := (h.2 q hq).1.2; omega⟩, (h.2 q hq).2⟩⟩
theorem aft_snoc {a : List Int} {j : Nat} (h : aft a j) (hj : 1 ≤ j) : aft (a ++ [(j : Int)]) (j + 1) := by
  refine ⟨by have := h.1; simp; omega, fun q hq => ?_⟩
  have hq : q < a.length + 1 := by simpa using hq
  rw [rd_snoc a _ q hq]
  by_cases c : q < a.length
  · rw [if_pos c]
    refine ⟨⟨(h.2 q c).1.1, by have := (h.2 q c).1.2; omega⟩, fun h0 => ?_⟩
    rw [rd_snoc a _ (q - 1) (by omega), if_pos (by omega)]
    exact (h.2 q c).2 h0
  · rw [if_neg c]
    refine ⟨by omega, fun h0 => ?_⟩
    rw [rd_snoc a _ (q - 1) (by omega), if_pos (by omega)]
    exact (h.2 (q - 1) (by omega)).1.2
def gts (l : List S39) (g : Int) : Prop := ∀ q : Nat, q < l.length → attrOk g (rd_T39 l (q : Int)) ∧ okFrom (q : Int) (rd_T39 l (q : Int)).f0 0
theorem gts_snoc {l : List S39} {g : Int} (h : gts l g) (t : S39) (ht : attrOk g t) (ha : aft t.f0 (l.length + 1)) : gts (l ++ [t]) g := by
  intro q hq
  have hq : q < l.length + 1 := by simpa using hq
  rw [rdT_snoc l t q hq]
  by_cases c : q < l.length
  · rw [if_pos c]; exact h q c
  · rw [if_neg c]
    refine ⟨ht, fun x _ hx => ⟨⟨(ha.2 x hx).1.1, by have := (ha.2 x hx).1.2; omega⟩, (ha.2 x hx).2⟩⟩
theorem suiteT_ev (b : List Int) (g : Int) (hg : 1 ≤ g ∧ g ≤ 3) (n : Nat) (hn : n ≤ 14) (lim : List Int) : ∀ (d i : Nat) (p : Int) (l : List S39), i + d = n → RdOk b p → l.length = i → gts l g →
    ∃ l0 p', Ev (fun k => spec_l1Rd_suite.l1 k g (n : Int) (i : Int) b p l lim) (l0, lim, p') ∧ l0.length = n ∧ gts l0 g ∧ RdOk b p' := by
  intro d
  induction d with
  | zero =>
    intro i p l hi hp hl hgt
    refine ⟨l, p, Ev.step (f := fun _ => some (l, lim, p)) (fun k => ?_) (Ev.now _), by omega, hgt, hp⟩
    simp only [spec_l1Rd_suite.l1]
    rw [if_neg (by omega)]
  | succ d ih =>
    intro i p l hi hp hl hgt
    obtain ⟨v1, p1, e1, a1, b1, r1⟩ := rdBelow hp g hg.1
    obtain ⟨v2, p2, e2, a2, b2, r2⟩ := rdBelow r1 3 (by omega)
    have inner : ∀ (e j : Nat) (p : Int) (a : List Int), j + e = i + 1 → 1 ≤ j → RdOk b p → aft a j →
        ∃ l0 p', Ev (fun k => spec_l1Rd_suite.l2 k g (n : Int) (i : Int) (j : Int) b p l lim a (1 + v1) 0 (1 + v2)) (l0, lim, p') ∧ l0.length = n ∧ gts l0 g ∧ RdOk b p' := by
      intro e
      induction e with
      | zero =>
        intro j p a hj hj1 hp ha
        obtain ⟨o, p3, e3, r3⟩ := rdOnce hp 2 (by omega)
        have ew : wrap64 ((i : Int) + 1) = ((i + 1 : Nat) : Int) := by rw [w64 (by omega) (by omega)]; rfl
        cases o with
        | true =>
          obtain ⟨v, p4, e4, a4, b4, r4⟩ := rdBelow r3 50 (by omega)
          obtain ⟨l0, p', ev, h1, h2, h3⟩ := ih (i + 1) p4 (l ++ [⟨a, 1 + v1, 1 + v, 1 + v2⟩]) (by omega) r4 (by simp; omega) (gts_snoc hgt _ ⟨by show 1 ≤ 1 + v1 ∧ 1 + v1 ≤ g; omega, by show 0 ≤ 1 + v ∧ 1 + v ≤ _; omega, by show 1 ≤ 1 + v2 ∧ 1 + v2 ≤ 5; omega⟩ (by rw [hl, show i + 1 = j by omega]; exact ha))
          refine ⟨l0, p', Ev.step (fun k => ?_) ev, h1, h2, h3⟩
          simp only [spec_l1Rd_suite.l2]
          rw [if_neg (by omega), e3, Option.bind_some]
          simp only [if_true, e4, Option.bind_some]
          rw [if_pos (by omega), ew, w64 (n := 1 + v) (by omega) (by omega)]
        | false =>
          obtain ⟨l0, p', ev, h1, h2, h3⟩ := ih (i + 1) p3 (l ++ [⟨a, 1 + v1, 0, 1 + v2⟩]) (by omega) r3 (by simp; omega) (gts_snoc hgt _ ⟨by show 1 ≤ 1 + v1 ∧ 1 + v1 ≤ g; omega, by show (0 : Int) ≤ 0 ∧ (0 : Int) ≤ _; omega, by show 1 ≤ 1 + v2 ∧ 1 + v2 ≤ 5; omega⟩ (by rw [hl, show i + 1 = j by omega]; exact ha))
          refine ⟨l0, p', Ev.step (fun k => ?_) ev, h1, h2, h3⟩
          simp only [spec_l1Rd_suite.l2]
          rw [if_neg (by omega), e3, Option.bind_some]
          simp only [Bool.false_eq_true, if_false]
          rw [if_pos (by omega), ew]
      | succ e ihe =>
        intro j p a hj hj1 hp ha
        obtain ⟨o, p3, e3, r3⟩ := rdOnce hp 3 (by omega)
        have ew : wrap64 ((j : Int) + 1) = ((j + 1 : Nat) : Int) := by rw [w64 (by omega) (by omega)]; rfl
        cases o with
        | true =>
          obtain ⟨l0, p', ev, h⟩ := ihe (j + 1) p3 (a ++ [(j : Int)]) (by omega) (by omega) r3 (aft_snoc ha hj1)
          refine ⟨l0, p', Ev.step (fun k => ?_) ev, h⟩
          have hal := ha.1
          simp only [spec_l1Rd_suite.l2]
          rw [if_pos (by omega), e3, Option.bind_some]
          simp only [if_true]
          rw [if_pos (by omega), ew]
        | false =>
          obtain ⟨l0, p', ev, h⟩ := ihe (j + 1) p3 a (by omega) (by omega) r3 (aft_stay ha)
          refine ⟨l0, p', Ev.step (fun k => ?_) ev, h⟩
          simp only [spec_l1Rd_suite.l2]
          rw [if_pos (by omega), e3, Option.bind_some]
          simp only [Bool.false_eq_true, if_false]
          rw [ew]
    obtain ⟨l0, p', ev, h⟩ := inner i 1 p2 [] (by omega) (by omega) r2 aft_nil
    refine ⟨l0, p', Ev.step (fun k => ?_) ev, h⟩
    simp only [spec_l1Rd_suite.l1]
    rw [if_pos (by omega), e1, Option.bind_some]
    simp only [e2, Option.bind_some]
    rw [w64 (n := 1 + v1) (by omega) (by omega), w64 (n := 1 + v2) (by omega) (by omega)]
    rfl
theorem suite_ev (b : List Int) (p : Int) (hp : RdOk b p) : ∃ l0 l1 p', Ev (fun k => spec_l1Rd_suite.f k b p) (l0, l1, p') ∧ suiteOk l0 l1 ∧ RdOk b p' := by
  obtain ⟨v, p0, e0, a0, b0, r0⟩ := rdBelow hp 3 (by omega)
  obtain ⟨g, hg⟩ : ∃ g : Nat, 1 + v = (g : Int) := ⟨(1 + v).toNat, by omega⟩
  have key : ∀ (d i : Nat) (p : Int) (lim : List Int), i + d = g → RdOk b p → lim.length = i → intsFrom lim 1 60 0 → ∃ l0 l1 p', Ev (fun k => spec_l1Rd_suite.l0 k (g : Int) (i : Int) b p lim) (l0, l1, p') ∧ suiteOk l0 l1 ∧ RdOk b p' := by
    intro d
    induction d with
    | zero =>
      intro i p lim hi hp hl hli
      obtain ⟨n, p1, e1, a1, b1, r1⟩ := rdSize hp 5 14 (by omega) (by omega) (by omega)
      obtain ⟨m, hm⟩ : ∃ m : Nat, n = (m : Int) := ⟨n.toNat, by omega⟩
      subst hm
      obtain ⟨l0, p', ev, h1, h2, h3⟩ := suiteT_ev b (g : Int) ⟨by omega, by omega⟩ m (by omega) lim m 0 p1 [] (by omega) r1 rfl (fun q hq => by simp at hq)
      refine ⟨l0, lim, p', Ev.step (fun k => ?_) ev, ⟨⟨by omega, by omega⟩, ⟨by omega, by omega⟩, hli, fun q _ hq => ?_⟩, h3⟩
      · simp only [spec_l1Rd_suite.l0]
        rw [if_neg (by omega), e1, Option.bind_some]
        rfl
      · have := h2 q hq
        rw [show (lim.length : Int) = (g : Int) by omega]
        exact this
    | succ d ih =>
      intro i p lim hi hp hl hli
      obtain ⟨x, p1, e1, a1, b1, r1⟩ := rdBelow hp 3 (by omega)
      obtain ⟨l0, l1, p', ev, h⟩ := ih (i + 1) p1 (lim ++ [1 + x]) (by omega) r1 (by simp; omega) (fun q _ hq => by
        have hq : q < lim.length + 1 := by simpa using hq
        rw [rd_snoc lim _ q hq]
        by_cases c : q < lim.length
        · rw [if_pos c]; exact hli q (Nat.zero_le _) c
        · rw [if_neg c]; omega)
      refine ⟨l0, l1, p', Ev.step (fun k => ?_) ev, h⟩
      simp only [spec_l1Rd_suite.l0]
      rw [if_pos (by omega), e1, Option.bind_some]
      simp only [if_pos (show lim.length < 17592186044416 by omega)]
      rw [w64 (n := (i : Int) + 1) (by omega) (by omega), w64 (n := 1 + x) (by omega) (by omega)]
      rfl
  obtain ⟨l0, l1, p', ev, h⟩ := key g 0 p0 [] (by omega) r0 rfl (fun q _ hq => by simp at hq)
  refine ⟨l0, l1, p', ?_, h⟩
  unfold spec_l1Rd_suite.f
  rw [e0]
  simp only [Option.bind_some]
  rw [w64 (n := 1 + v) (by omega) (by omega), hg]
  exact ev

/-! ### a run behind drawn events -/
theorem rep_good {l0 : List S39} {l1 : List Int} {n : Int} {l3 : List S43} (h : runP l0 l1 n l3) (a : Int) (ok : Bool) : ∃ y3 o, repRun l0 l1 n l3 a ok = (l0, l1, n, y3, o) ∧ runP l0 l1 n y3 := by
  unfold repRun
  rw [if_pos (dec_true h)]
  by_cases c : (1 ≤ a ∧ a ≤ (l3.length : Int)) ∧ (rd_T43 l3 (a - 1)).f0 = 1
  · rw [if_pos c]
    obtain ⟨i, hi⟩ : ∃ i : Nat, a - 1 = (i : Int) := ⟨(a - 1).toNat, by omega⟩
    refine ⟨_, _, rfl, ?_⟩
    have c2 := c.2
    rw [hi] at c2 ⊢
    rw [Int.toNat_natCast]
    refine runP_report h i (by omega) c2 _ ?_
    unfold repHow
    rw [hi]
    by_cases c3 : ok = true
    · rw [if_pos c3]; exact .inl rfl
    · rw [if_neg c3]
      by_cases c4 : (rd_T43 l3 (i : Int)).f1 = (rd_T39 l0 (i : Int)).f3
      · rw [if_pos c4]; exact .inr (.inl ⟨rfl, c4⟩)
      · rw [if_neg c4]; exact .inr (.inr ⟨rfl, c4⟩)
  · rw [if_neg c]; exact ⟨_, _, rfl, h⟩
theorem run_ev (b : List Int) (p : Int) (hp : RdOk b p) : ∃ l0 l1 n l3 p', Ev (fun k => spec_l1Rd_run.f k b p) (l0, l1, n, l3, p') ∧ runP l0 l1 n l3 ∧ RdOk b p' := by
  obtain ⟨l0, l1, p1, e1, hs, r1⟩ := suite_ev b p hp
  obtain ⟨e2, g2⟩ := specNewP_ev l0 l1 (suite_fits hs) hs
  obtain ⟨m, p2, e3, a3, b3, r3⟩ := rdSize r1 4 30 (by omega) (by omega) (by omega)
  obtain ⟨M, hM⟩ : ∃ M : Nat, m = (M : Int) := ⟨m.toNat, by omega⟩
  subst hM
  have key : ∀ (d i : Nat) (p : Int) (n : Int) (l3 : List S43), i + d = M → RdOk b p → runP l0 l1 n l3 → ∃ l0' l1' n' l3' p', Ev (fun k => spec_l1Rd_run.l0 k (M : Int) (i : Int) b p l0 l1 n l3) (l0', l1', n', l3', p') ∧ runP l0' l1' n' l3' ∧ RdOk b p' := by
    intro d
    induction d with
    | zero =>
      intro i p n l3 hi hp hr
      refine ⟨l0, l1, n, l3, p, Ev.step (f := fun _ => some (l0, l1, n, l3, p)) (fun k => ?_) (Ev.now _), hr, hp⟩
      simp only [spec_l1Rd_run.l0]
      rw [if_neg (by omega)]
    | succ d ih =>
      intro i p n l3 hi hp hr
      have hf := runP_fits hr
      have ew : wrap64 ((i : Int) + 1) = ((i + 1 : Nat) : Int) := by rw [w64 (by omega) (by omega)]; rfl
      obtain ⟨x, p1, e1, a1, b1, r1⟩ := rdBelow hp 6 (by omega)
      have go1 : (∃ l0' l1' n' l3' p', Ev (fun k => spec_l1Rd_run.j1 k (M : Int) (i : Int) x (decide (x ≤ 1)) b p1 l0 l1 n l3) (l0', l1', n', l3', p') ∧ runP l0' l1' n' l3' ∧ RdOk b p') → ∃ l0' l1' n' l3' p', Ev (fun k => spec_l1Rd_run.l0 k (M : Int) (i : Int) b p l0 l1 n l3) (l0', l1', n', l3', p') ∧ runP l0' l1' n' l3' ∧ RdOk b p' := by
        rintro ⟨l0', l1', n', l3', p', e, h⟩
        refine ⟨l0', l1', n', l3', p', Ev.step (fun k => ?_) e, h⟩
        simp only [spec_l1Rd_run.l0]
        rw [if_pos (by omega), e1, Option.bind_some]
        by_cases c : x = 0
        · rw [if_pos c, show (x == 0) = decide (x ≤ 1) by rw [Bool.eq_iff_iff, beq_iff_eq, decide_eq_true_iff]; omega]
        · rw [if_neg c, show (x == 1) = decide (x ≤ 1) by rw [Bool.eq_iff_iff, beq_iff_eq, decide_eq_true_iff]; omega]
      apply go1
      by_cases c0 : x ≤ 1
      · rw [decide_eq_true c0]
        obtain ⟨y3, bg, e, hy⟩ := specStart_ev l0 l1 n l3 hf hr
        obtain ⟨l0', l1', n', l3', p', e', h⟩ := ih (i + 1) p1 n y3 (by omega) r1 hy
        refine ⟨l0', l1', n', l3', p', Ev.step (f := fun k => (spec_StartTasks.f k l0 l1 n l3).bind fun bt => spec_l1Rd_run.l0 k (M : Int) ((i + 1 : Nat) : Int) b p1 bt.1 bt.2.1 bt.2.2.1 bt.2.2.2.1) (fun k => ?_) (Ev_bind _ e e'), h⟩
        simp only [spec_l1Rd_run.j1, if_true, ew]
      · rw [decide_eq_false c0]
        have go2 : (∃ l0' l1' n' l3' p', Ev (fun k => spec_l1Rd_run.j2 k (M : Int) (i : Int) x (decide (x ≤ 3)) b p1 l0 l1 n l3) (l0', l1', n', l3', p') ∧ runP l0' l1' n' l3' ∧ RdOk b p') → ∃ l0' l1' n' l3' p', Ev (fun k => spec_l1Rd_run.j1 k (M : Int) (i : Int) x false b p1 l0 l1 n l3) (l0', l1', n', l3', p') ∧ runP l0' l1' n' l3' ∧ RdOk b p' := by
          rintro ⟨l0', l1', n', l3', p', e, h⟩
          refine ⟨l0', l1', n', l3', p', Ev.step (fun k => ?_) e, h⟩
          simp only [spec_l1Rd_run.j1, Bool.false_eq_true, if_false]
          by_cases c : x = 2
          · rw [if_pos c, show (x == 2) = decide (x ≤ 3) by rw [Bool.eq_iff_iff, beq_iff_eq, decide_eq_true_iff]; omega]
          · rw [if_neg c, show (x == 3) = decide (x ≤ 3) by rw [Bool.eq_iff_iff, beq_iff_eq, decide_eq_true_iff]; omega]
        apply go2
        by_cases c1 : x ≤ 3
        · rw [decide_eq_true c1]
          have hl3 : 1 ≤ (l3.length : Int) := by have := hr.1.1.1; have := hr.2.2.1; omega
          obtain ⟨y, p2, e2, a2, b2, r2⟩ := rdBelow r1 (l3.length : Int) hl3
          obtain ⟨o, p3, e3, r3⟩ := rdOnce r2 3 (by omega)
          obtain ⟨y3, o3, eq3, hy⟩ := rep_good hr (1 + y) (!o)
          have er := specRep_ev l0 l1 n l3 (1 + y) (!o) hf
          rw [eq3] at er
          obtain ⟨l0', l1', n', l3', p', e', h⟩ := ih (i + 1) p3 n y3 (by omega) r3 hy
          refine ⟨l0', l1', n', l3', p', Ev.step (f := fun k => (spec_Report.f k l0 l1 n l3 (1 + y) (!o)).bind fun bt => spec_l1Rd_run.l0 k (M : Int) ((i + 1 : Nat) : Int) b p3 bt.1 bt.2.1 bt.2.2.1 bt.2.2.2.1) (fun k => ?_) (Ev_bind _ er e'), h⟩
          have h3 := hf.n3
          simp only [spec_l1Rd_run.j2, if_true, ew, e2, Option.bind_some, e3]
          rw [w64 (n := 1 + y) (by omega) (by omega)]
        · rw [decide_eq_false c1]
          by_cases c2 : x = 4
          · obtain ⟨y, p2, e2, a2, b2, r2⟩ := rdBelow r1 20 (by omega)
            have er := specTick_ev l0 l1 n l3 y hf
            have ht : tickRun l0 l1 n l3 y = (l0, l1, tickN n y, l3, lateL l0 l3 n (tickN n y) l3.length) := by unfold tickRun; rw [if_pos ⟨dec_true hr, a2⟩]
            rw [ht] at er
            obtain ⟨l0', l1', n', l3', p', e', h⟩ := ih (i + 1) p2 (tickN n y) l3 (by omega) r2 (runP_now hr (by have := hr.2.1; unfold tickN; split <;> omega))
            refine ⟨l0', l1', n', l3', p', Ev.step (f := fun k => (spec_TickRun.f k l0 l1 n l3 y).bind fun bt => spec_l1Rd_run.l0 k (M : Int) ((i + 1 : Nat) : Int) b p2 bt.1 bt.2.1 bt.2.2.1 bt.2.2.2.1) (fun k => ?_) (Ev_bind _ er e'), h⟩
            simp only [spec_l1Rd_run.j2, Bool.false_eq_true, if_false, if_pos c2, ew, e2, Option.bind_some]
          · obtain ⟨o, p2, e2, r2⟩ := rdOnce r1 2 (by omega)
            cases o with
            | true =>
              have er := specCrash_ev l0 l1 n l3 hf
              have ht : crashRun l0 l1 n l3 = (l0, l1, n, l3.map crashJ) := by unfold crashRun; rw [if_pos (dec_true hr)]
              rw [ht] at er
              obtain ⟨l0', l1', n', l3', p', e', h⟩ := ih (i + 1) p2 n (l3.map crashJ) (by omega) r2 (runP_crash hr)
              refine ⟨l0', l1', n', l3', p', Ev.step (f := fun k => (spec_CrashRun.f k l0 l1 n l3).bind fun bt => spec_l1Rd_run.l0 k (M : Int) ((i + 1 : Nat) : Int) b p2 bt.1 bt.2.1 bt.2.2.1 bt.2.2.2) (fun k => ?_) (Ev_bind _ er e'), h⟩
              simp only [spec_l1Rd_run.j2, Bool.false_eq_true, if_false, if_neg c2, ew, e2, Option.bind_some, if_true]
            | false =>
              obtain ⟨l0', l1', n', l3', p', e', h⟩ := ih (i + 1) p2 n l3 (by omega) r2 hr
              refine ⟨l0', l1', n', l3', p', Ev.step (fun k => ?_) e', h⟩
              simp only [spec_l1Rd_run.j2, Bool.false_eq_true, if_false, if_neg c2, ew, e2, Option.bind_some]
  obtain ⟨l0', l1', n', l3', p', e', h⟩ := key M 0 p2 0 _ (by omega) r3 g2
  refine ⟨l0', l1', n', l3', p', ?_, h⟩
  unfold spec_l1Rd_run.f
  refine Ev_bind _ e1 (Ev_bind _ e2 ?_)
  simp only [e3, Option.bind_some]
  exact e'
theorem draw_ev (b : List Int) (p : Int) (hp : RdOk b p) : ∃ l0 l1 n l3 p', Ev (fun k => spec_l24Draw.f k b p) (l0, l1, n, l3, p') ∧ FitsR l0 l1 l3 ∧ RdOk b p' := by
  obtain ⟨l0, l1, n, l3, p1, e1, hr, r1⟩ := run_ev b p hp
  have hf := runP_fits hr
  have hl3 : 0 < (l3.length : Int) := by have := hr.1.1.1; have := hr.2.2.1; omega
  have hl1 : 0 < (l1.length : Int) := by have := hr.1.2.1.1; omega
  obtain ⟨o, p2, e2, r2⟩ := rdOnce r1 7 (by omega)
  unfold spec_l24Draw.f
  cases o with
  | false =>
    refine ⟨l0, l1, n, l3, p2, Ev_bind _ e1 ?_, hf, r2⟩
    simp only [e2, Option.bind_some, Bool.false_eq_true, if_false]
    exact Ev.now _
  | true =>
    obtain ⟨x, p3, e3, a3, b3, r3⟩ := rdBelow r2 5 (by omega)
    by_cases c0 : x = 0
    · obtain ⟨y, p4, e4, a4, b4, r4⟩ := rdBelow r3 3 (by omega)
      refine ⟨l0, l1, rd [-1, 1000000000000, 1000000000001] y, l3, p4, Ev_bind _ e1 ?_, hf, r4⟩
      simp only [e2, Option.bind_some, if_true, e3, if_pos c0, e4, if_pos a4]
      rw [if_pos (show y < (([-1, 1000000000000, 1000000000001] : List Int).length : Int) by simp; omega)]
      exact Ev.now _
    by_cases c1 : x = 1
    · obtain ⟨y, p4, e4, a4, b4, r4⟩ := rdBelow r3 6 (by omega)
      refine ⟨l0, l1, n, l3.set (0 : Int).toNat ⟨wrap64 (y - 1), (rd_T43 l3 0).f1⟩, p4, Ev_bind _ e1 ?_, ⟨hf.s, ?_⟩, r4⟩
      · simp only [e2, Option.bind_some, if_true, e3, if_neg c0, if_pos c1, e4, if_pos hl3]
        exact Ev.now _
      · simpa using hf.n3
    by_cases c2 : x = 2
    · obtain ⟨y, p4, e4, a4, b4, r4⟩ := rdBelow r3 5 (by omega)
      refine ⟨l0, l1, n, l3.set (0 : Int).toNat ⟨(rd_T43 l3 0).f0, wrap64 (y - 1)⟩, p4, Ev_bind _ e1 ?_, ⟨hf.s, ?_⟩, r4⟩
      · simp only [e2, Option.bind_some, if_true, e3, if_neg c0, if_neg c1, if_pos c2, e4, if_pos hl3]
        exact Ev.now _
      · simpa using hf.n3
    by_cases c3 : x = 3
    · refine ⟨l0, l1, n, l3.drop (1 : Int).toNat, p3, Ev_bind _ e1 ?_, ⟨hf.s, ?_⟩, r3⟩
      · simp only [e2, Option.bind_some, if_true, e3, if_neg c0, if_neg c1, if_neg c2, if_pos c3, if_pos (show 1 ≤ (l3.length : Int) by omega)]
        exact Ev.now _
      · have := hf.n3
        simp
        omega
    · refine ⟨l0, l1.set (0 : Int).toNat 1, n, l3, p3, Ev_bind _ e1 ?_, ⟨⟨hf.s.n0, hf.s.n1, ?_⟩, hf.n3⟩, r3⟩
      · simp only [e2, Option.bind_some, if_true, e3, if_neg c0, if_neg c1, if_neg c2, if_neg c3, if_pos hl1]
        exact Ev.now _
      · simpa using hf.s.n2
theorem rdOk_start {c : List Int} (hl : c.length ≤ 1048576) (hb : ∀ x ∈ c, (Lit.int .u8 x).wf = true) : RdOk c 0 := by
  refine ⟨hl, fun i hi => ?_, by omega, by omega⟩
  have := wfU8_range (hb _ (List.getElem_mem hi))
  rw [rd_lt c i hi]
  exact this
end Go.Proofs.Ytjoghfehmhapbaa.QFnReportsAnyway
